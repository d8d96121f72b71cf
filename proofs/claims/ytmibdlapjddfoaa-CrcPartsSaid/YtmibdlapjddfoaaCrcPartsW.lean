/- CrcParts: sums of parts, one behind the other, are that of all. For every input; no condition. -/
import Derived.Test.YtmibdlapjddfoaaCrcE
import Derived.Test.YtmibdlapjddfoaaBase
namespace Go.Proofs.Ytmibdlapjddfoaa.CrcPartsW
open Go.RowKit Go.Proofs.YtmibdlapjddfoaaW.PrintWords Go.Proofs.YtmibdlapjddfoaaW.PrintLast Go.Proofs.YtmibdlapjddfoaaW.PrintMore Go.Proofs.Ytmibdlapjddfoaa.Bv Go.Proofs.Ytmibdlapjddfoaa.CrcF Go.Proofs.Ytmibdlapjddfoaa.CrcE Go.Proofs.Ytmibdlapjddfoaa.QCrc
theorem info : (Try.prog.info? 5).map (fun i => (i.zero, i.size, i.bytes)) = some (some (.int .u8 0), 1, 1) := by kernel_rfl
/-! The calls, by what they come to -/
theorem Sum_calls (A : Option Addr) (c : Nat) (l : List Int) (w : World) (hr : Kd.C (Kd.int .u8) w A l.length l) (hc : l.length ≤ c) (hn : l.length ≤ 140737488351232) :
    Calls Try.prog 16 #[.slice A l.length c] w fun e w' => e = .returned (.int .u32 (sum 0 l)) ∧ Drawn0 w w' := by
  obtain ⟨k, h⟩ := (Sum_ev l hn).rounds
  exact crc_Sum.calls k A c l _ w hr hc h
theorem More_calls (a : Int) (A : Option Addr) (c : Nat) (l : List Int) (w : World) (hr : Kd.C (Kd.int .u8) w A l.length l) (hc : l.length ≤ c) (hn : l.length ≤ 140737488351232) :
    Calls Try.prog 18 #[.int .u32 a, .slice A l.length c] w fun e w' => e = .returned (.int .u32 (sum a l)) ∧ Drawn0 w w' := by
  obtain ⟨k, h⟩ := (More_ev a l hn).rounds
  exact crc_More.calls k a A c l _ w hr hc h
theorem All_calls (A : Option Addr) (c : Nat) (ls : List (List Int)) (w : World) (hr : Kd.C (Kd.slice 5 (Kd.int .u8)) w A ls.length ls) (hc : ls.length ≤ c) (hn : ls.length ≤ 140737488351232) (hl : ∀ l ∈ ls, l.length ≤ 140737488351232) :
    Calls Try.prog 20 #[.slice A ls.length c] w fun e w' => e = .returned (.int .u32 (sums 0 ls)) ∧ Drawn0 w w' := by
  obtain ⟨k, h⟩ := (All_ev ls hn hl).rounds
  exact crc_All.calls k A c ls _ w hr hc h
theorem All_nil (w : World) : Calls Try.prog 20 #[.slice none 0 0] w fun e w' => e = .returned (.int .u32 (sums 0 [])) ∧ Drawn0 w w' := All_calls none 0 [] w (Kd.C_nil _ _) (Nat.le_refl _) (by decide) (by simp)
theorem Sum_nil (w : World) : Calls Try.prog 16 #[.slice none 0 0] w fun e w' => e = .returned (.int .u32 (sum 0 [])) ∧ Drawn0 w w' := Sum_calls none 0 [] w (Kd.C_nil _ _) (Nat.le_refl _) (by decide)
theorem More_nil (a : Int) (w : World) : Calls Try.prog 18 #[.int .u32 a, .slice none 0 0] w fun e w' => e = .returned (.int .u32 (sum a [])) ∧ Drawn0 w w' := More_calls a none 0 [] w (Kd.C_nil _ _) (Nat.le_refl _) (by decide)
theorem All_two (A : Option Addr) (l m : List Int) (w : World) (hr : Kd.C (Kd.slice 5 (Kd.int .u8)) w A 2 [l, m]) (hl : l.length ≤ 140737488351232) (hm : m.length ≤ 140737488351232) :
    Calls Try.prog 20 #[.slice A 2 2] w fun e w' => e = .returned (.int .u32 (sums 0 [l, m])) ∧ Drawn0 w w' :=
  All_calls A 2 [l, m] w hr (Nat.le_refl _) (by simp) (by simpa using ⟨hl, hm⟩)
set_option maxHeartbeats 1000000 in
set_option maxRecDepth 100000 in
theorem walk (w : World) (A0 : Option Addr) (c0 : Nat) (l0 : List Int) (hr0 : Kd.C (Kd.int .u8) w A0 l0.length l0) (hc0 : l0.length ≤ c0) (ok0 : l0.length * 1 ≤ 140737488351232 ∧ l0.length ≤ maxLen ∧ ∀ x ∈ l0, (Lit.int .u8 x).wf = true)
    (A1 : Option Addr) (c1 : Nat) (l1 : List Int) (hr1 : Kd.C (Kd.int .u8) w A1 l1.length l1) (hc1 : l1.length ≤ c1) (ok1 : l1.length * 1 ≤ 140737488351232 ∧ l1.length ≤ maxLen ∧ ∀ x ∈ l1, (Lit.int .u8 x).wf = true) :
    Calls Try.prog 4 #[.slice A0 l0.length c0, .slice A1 l1.length c1] w fun e w' => e = .returned (.bool true) ∧ Below w.heap.size w w' := by
  have HR0 := Aside0.mk hr0
  have HR1 := Aside0.mk hr1
  have HC0 := Aside0.mk hc0
  have HC1 := Aside0.mk hc1
  have HL0 := Aside0.mk (show l0.length ≤ 140737488351232 by omega)
  have HL1 := Aside0.mk (show l1.length ≤ 140737488351232 by omega)
  clear hr0 hr1 hc0 hc1 ok0 ok1
  by_cases h0 : (l0.length : Int) > 1000
  · have d0 : decide (1000 < (l0.length : Int)) = true := decide_eq_true h0
    clear h0
    go_enter Try.func4, Try.ntmps4
    go_wp2_with (first | (go_at_call 15; refine (carapacelaw01_awake.calls true _ rfl).mono ?_; rintro e w1 ⟨rfl, hb⟩; have HB := Aside0.mk hb; clear hb))
    go_ret
    exact ⟨rfl, HB.out⟩
  have d0 : decide (1000 < (l0.length : Int)) = false := decide_eq_false h0
  have HH0 := Aside0.mk h0
  clear h0
  by_cases h1 : (l1.length : Int) > 1000
  · have d1 : decide (1000 < (l1.length : Int)) = true := decide_eq_true h1
    clear h1
    go_enter Try.func4, Try.ntmps4
    go_wp2_with (first | (go_at_call 15; refine (carapacelaw01_awake.calls true _ rfl).mono ?_; rintro e w1 ⟨rfl, hb⟩; have HB := Aside0.mk hb; clear hb))
    go_ret
    exact ⟨rfl, HB.out⟩
  have d1 : decide (1000 < (l1.length : Int)) = false := decide_eq_false h1
  have HH1 := Aside0.mk h1
  clear h1
  obtain ⟨y, hy⟩ : ∃ y : List Int, y = l0 ++ l1 := ⟨_, rfl⟩
  have e1 : (sum (sum 0 l0) l1 == sum 0 y) = true := by rw [hy, sum_append]; exact beq_self_eq_true _
  have e2 : (sums 0 [l0, l1] == sum 0 y) = true := by
    show (sum (sum 0 l0) l1 == sum 0 y) = true
    rw [hy, sum_append]; exact beq_self_eq_true _
  have HN := Aside0.mk (show y.length ≤ 140737488351232 by have := HH0.out; have := HH1.out; rw [hy, List.length_append]; omega)
  have NY := Aside0.mk hy
  clear hy
  have e3 : (sums 0 [] == sum 0 []) = true := by decide +kernel
  have e4 : (sum (sum 0 l0) [] == sum 0 l0) = true := by
    rw [sum_nil (sum 0 l0) (by unfold sum; exact U_lo _) (by unfold sum; exact U32_hi _)]; exact beq_self_eq_true _
  go_enter Try.func4, Try.ntmps4
  go_wp2_with (first
    | (go_at_call 15; refine (carapacelaw01_awake.calls true _ rfl).mono ?_; rintro e w1 ⟨rfl, hb⟩; have HB := Aside0.mk hb; clear hb)
    | ((with_reducible refine gate_dst (N := 17) rfl ?_); refine Kd.R_lit (Kd.int .u8) _ 5 ?hg (N := 17) ?hd (xs := ([] : List Int)) (inner := []) (ok := fun _ => True) (okp := fun _ => True) ?hr ?hp (fun _ hk => hk) trivial (Below.refl _ _) (Nat.le_refl _) (by simp) ?_; (case hd => rfl); (case hg => rfl); (case hr => first | (go_simp; done) | (go_simp; rfl)); (case hp => exact (Reps.none _ _)); intro v1 w2 ho hb hg_ hnew_; clear hg_ hnew_; have n0 := Aside0.mk (Kd.R_lower ho (below_size (by repeat (first | (with_reducible first | exact HB.out | apply below_alloc | apply pw_below_drewN | apply below_drew1) | exact HB.out)))); have n1 := Aside0.mk (below_step (by repeat (first | (with_reducible first | exact HB.out | apply below_alloc | apply pw_below_drewN | apply below_drew1) | exact HB.out)) hb); clear HB; have HO := n0; have HB := n1; clear n0 n1; clear hb ho)
    | ((with_reducible refine gate_builtin (b := .append) (xs := #[.tmp 17, .tmp 18]) rfl ?_); at_builtin; refine Kd.R_append_rows (Kd.int .u8) (w0 := w) w.heap.size rfl (.tmp 17) (.tmp 18) 23 5 (.int .u8 0) 1 rfl Try.underlying23 info rfl (by decide) (by omega) v1 [] l0 _ _ _ (fun _ => True) (fun _ => False) rfl rfl ?aO ?aR (fun _ _ h => h) (fun _ h => h.elim) ?aF ?aB ?aS ?aL ?_; (case aR => exact (Kd.C_below HR0.out HB.out)); (case aB => exact (by repeat (first | (with_reducible first | exact HB.out | apply below_alloc | apply pw_below_drewN | apply below_drew1) | exact HB.out))); (case aF => exact (fun _ _ => trivial)); (case aO => exact HO.out); (case aS => exact (below_size (by repeat (first | (with_reducible first | exact HB.out | apply below_alloc | apply pw_below_drewN | apply below_drew1) | exact HB.out)))); (case aL => have := HL0.out; simp; omega); intro v2 w3 ho hb hg hat; have n0 := Aside0.mk hb; have n1 := Aside0.mk (show Kd.R (Kd.int .u8) 5 w3 w.heap.size (fun _ => True) v2 l0 from ho); clear HB; clear HO; have HB := n0; have HO := n1; clear n0 n1; clear ho hb hg hat)
    | ((with_reducible refine gate_builtin (b := .append) (xs := #[.tmp 19, .tmp 20]) rfl ?_); at_builtin; refine Kd.R_append_rows (Kd.int .u8) (w0 := w) w.heap.size rfl (.tmp 19) (.tmp 20) 23 5 (.int .u8 0) 1 rfl Try.underlying23 info rfl (by decide) (by omega) v2 l0 l1 _ _ _ (fun _ => True) (fun _ => False) rfl rfl ?aO ?aR (fun _ _ h => h) (fun _ h => h.elim) ?aF ?aB ?aS ?aL ?_; (case aR => exact (Kd.C_below HR1.out HB.out)); (case aB => exact (by repeat (first | (with_reducible first | exact HB.out | apply below_alloc | apply pw_below_drewN | apply below_drew1) | exact HB.out))); (case aF => exact (fun _ _ => trivial)); (case aO => exact HO.out); (case aS => exact (below_size (by repeat (first | (with_reducible first | exact HB.out | apply below_alloc | apply pw_below_drewN | apply below_drew1) | exact HB.out)))); (case aL => have := HH0.out; have := HH1.out; omega); intro v3 w4 ho hb hg hat; rw [← NY.out] at ho; have n0 := Aside0.mk hb; have n1 := Aside0.mk ho; clear HB; clear HO; have HB := n0; have HO := n1; clear n0 n1; clear ho hb hg hat; obtain ⟨Ao, co, eo⟩ := Kd.R_slice HO.out; subst eo)
    | (go_at_call 16; (with_reducible refine (Sum_calls _ _ l0 _ ?s1 HC0.out HL0.out).mono ?_); (case s1 => exact (Kd.C_below HR0.out (by repeat (first | (with_reducible first | exact HB.out | apply below_alloc | apply pw_below_drewN | apply below_drew1) | exact HB.out)))); rintro e w' ⟨rfl, ⟨nd, rfl⟩⟩)
    | (go_at_call 16; (with_reducible refine (Sum_calls _ _ y _ ?s1 (Kd.R_reads' HO.out).2.1 HN.out).mono ?_); (case s1 => exact (Kd.C_below (Kd.R_reads' HO.out).2.2 (by repeat (first | exact Below.refl _ _ | apply below_alloc | apply pw_below_drewN)))); rintro e w' ⟨rfl, ⟨nd, rfl⟩⟩)
    | (go_at_call 16; (with_reducible refine (Sum_nil _).mono ?_); rintro e w' ⟨rfl, ⟨nd, rfl⟩⟩)
    | (go_at_call 18; (with_reducible refine (More_calls _ _ _ l1 _ ?s1 HC1.out HL1.out).mono ?_); (case s1 => exact (Kd.C_below HR1.out (by repeat (first | (with_reducible first | exact HB.out | apply below_alloc | apply pw_below_drewN | apply below_drew1) | exact HB.out)))); rintro e w' ⟨rfl, ⟨nd, rfl⟩⟩)
    | (go_at_call 18; (with_reducible refine (More_nil _ _).mono ?_); rintro e w' ⟨rfl, ⟨nd, rfl⟩⟩)
    | (go_at_call 20; (with_reducible refine (All_nil _).mono ?_); rintro e w' ⟨rfl, ⟨nd, rfl⟩⟩)
    | (go_at_call 20; (with_reducible refine (All_two _ l0 l1 _ ?hr HL0.out HL1.out).mono ?_); (case hr => exact Base.C_news _ rfl _ _ (by simp) _ _ _ [l0, l1] (by simp) ⟨Base.K_slice rfl HC0.out (Kd.C_below HR0.out (by repeat (first | (with_reducible first | exact HB.out | apply below_alloc | apply pw_below_drewN | apply below_drew1) | exact HB.out))), Base.K_slice rfl HC1.out (Kd.C_below HR1.out (by repeat (first | (with_reducible first | exact HB.out | apply below_alloc | apply pw_below_drewN | apply below_drew1) | exact HB.out))), trivial⟩); rintro e w' ⟨rfl, ⟨nd, rfl⟩⟩))
  go_ret
  exact ⟨rfl, (by repeat (first | (with_reducible first | exact HB.out | apply below_alloc | apply pw_below_drewN | apply below_drew1) | exact HB.out))⟩
end Go.Proofs.Ytmibdlapjddfoaa.CrcPartsW
