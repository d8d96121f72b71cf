-- LinkParts.
import Derived.Test.YtjbbomchmacdjaaLkL
import Derived.Test.YtjbbomchmacdjaaLkJ
namespace Go.Proofs.Ytjbbomchmacdjaa.Pv
set_option linter.all false
open Go.RowKit Go.Proofs
set_option maxRecDepth 100000
theorem Cd.gd.ok {c : Cd} (h : c.gd) (hn : c.W.length ≤ 50000000) (hm : c.R.length ≤ 50000000) : c.ok := ⟨h.w, hn, hm, fun r hr => by
  have := h.rin r hr
  obtain ⟨h1, h2⟩ := this
  split at h2 <;> omega⟩
theorem linkF_bad {L : List Cd} (h : badF L = true) : linkF L = (⟨[], []⟩, 1) := by
  unfold linkF
  rw [if_pos h]
theorem gd_of {L : List Cd} (h : badF L = false) (hok : ∀ c ∈ L, c.ok) : ∀ c ∈ L, c.gd := fun c hc => by
  unfold badF at h
  rw [List.any_eq_false] at h
  exact ⟨(hok c hc).w, by simpa using h c hc⟩
theorem allTo_6000 {L : List Cd} (hs : ∀ c ∈ L, c.W.length ≤ 300 ∧ c.R.length ≤ 300) (hn : L.length ≤ 20) : (allTo L L.length).W.length ≤ 6000 ∧ (allTo L L.length).R.length ≤ 6000 := by
  have := allTo_len L 300 hs L.length (Nat.le_refl _)
  have h2 := Nat.mul_le_mul_right 300 hn
  omega
theorem linkF_good {L : List Cd} (h : badF L = false) (hs : ∀ c ∈ L, c.W.length ≤ 300 ∧ c.R.length ≤ 300) (hn : L.length ≤ 20) : linkF L = (allTo L L.length, 0) := by
  have := allTo_6000 hs hn
  unfold linkF
  rw [if_neg (by rw [h]; decide), if_neg (by omega)]
theorem codeRows_take (L : List Cd) (k : Nat) : codeRows (L.take k) = (codeRows L).take k := by simp [codeRows, List.map_take]
theorem codeRows_drop (L : List Cd) (k : Nat) : codeRows (L.drop k) = (codeRows L).drop k := by simp [codeRows, List.map_drop]
theorem bad_parts (L : List Cd) (k : Nat) : badF L = (badF (L.take k) || badF (L.drop k)) := by
  unfold badF
  rw [← List.any_append, List.take_append_drop]
theorem parts14 {x0 x1 : PV} (h0 : SSl 2 48 (SFs [SSl 1 4 (SInt .u32), SSl 2 16 (SFs [SInt .i64, SBool])]) [x0]) (h1 : SInt .i64 [x1]) : PCall Try.prog 11 [x0, x1] (.v (.bool true)) := by
  obtain ⟨m, rfl, hm⟩ := one_int h1
  have hm := wfi64 hm
  obtain ⟨rows, e1, hB, hM, hR⟩ := h0
  simp only [List.cons.injEq, and_true] at e1
  subst e1
  obtain ⟨L, rfl, hL⟩ := codes_of hR
  have hcl := codeRows_length L
  rw [hcl] at hB
  clear hR hM h1
  refine pcall_mk Try.func11 rfl [.tmp 4] Try.results11 107 rfl (tk_start ?_)
  (repeat refine ka ?_); refine kr ?_ ?_ (pops_end ?_)
  (repeat refine ka ?_); refine kr ?_ ?_ ?_
  refine ps_pcall awake14 ?_
  refine pops_go ?_ ?_ (pops_end ?_)
  by_cases hk : 20 < (L.length : Int)
  · (repeat refine ka ?_); refine kr ?_ ?_ (pops_end ?_)
    (repeat refine ka ?_); refine kct ?_
    (repeat refine ka ?_); refine kr ?_ ?_ (pops_end ?_)
    (repeat refine ka ?_); refine kret ?_; repeat (first | with_reducible refine beh_r ?_ | with_reducible refine blk_r ?_)
    refine ends_ret ?_ retPV_one
    rfl
  by_cases hk2 : m < 0
  · (repeat refine ka ?_); refine kr ?_ ?_ (pops_end ?_)
    (repeat refine ka ?_); refine kct ?_
    (repeat refine ka ?_); refine kr ?_ ?_ (pops_end ?_)
    (repeat refine ka ?_); refine kret ?_; repeat (first | with_reducible refine beh_r ?_ | with_reducible refine blk_r ?_)
    refine ends_ret ?_ retPV_one
    rfl
  by_cases hk3 : (L.length : Int) < m
  · (repeat refine ka ?_); refine kr ?_ ?_ (pops_end ?_)
    (repeat refine ka ?_); refine kct ?_
    (repeat refine ka ?_); refine kr ?_ ?_ (pops_end ?_)
    (repeat refine ka ?_); refine kret ?_; repeat (first | with_reducible refine beh_r ?_ | with_reducible refine blk_r ?_)
    refine ends_ret ?_ retPV_one
    rfl
  (repeat refine ka ?_); refine kr ?_ ?_ (pops_end ?_)
  (repeat refine ka ?_); refine kcf ?_
  (repeat refine ka ?_); refine ksk ?_
  (repeat refine ka ?_); refine kr ?_ ?_ (pops_end ?_)
  (repeat refine ka ?_); refine kb ?_
  refine kw (fun s : Nat => [(0, .ro 2 false (codeRows L)), (1, .v (.int .i64 m)), (5, .v (.bool true)), (6, .v (.int .i64 s))]) (fun s => [])
    (fun s => s ≤ L.length ∧ ∀ c ∈ L.take s, c.W.length ≤ 300 ∧ c.R.length ≤ 300) (fun s => L.length - s) 0 (by simp) (holds 0 (by repeat (first | exact .nil | refine has1 ?_))) ?_
  rintro i ⟨hi, hs⟩
  by_cases h : i < L.length
  · obtain ⟨c, hc⟩ : ∃ c, L[i]? = some c := ⟨L[i], by simp [h]⟩
    have hcm := List.mem_of_getElem? hc
    have hrow := codeRows_get hc
    have hca := hL c hcm
    have c1 := small14b c hca
    by_cases hsm : c.W.length ≤ 300 ∧ c.R.length ≤ 300
    rotate_left
    · rw [decide_eq_false hsm] at c1
      unfold Cd.pv Cd.row at c1
      (repeat refine ka ?_); refine kr ?_ ?_ (pops_end ?_)
      (repeat refine ka ?_); refine kct ?_
      (repeat refine ka ?_); refine ksk ?_
      (repeat refine ka ?_); refine kb ?_
      (repeat refine ka ?_); refine kr ?_ ?_ ?_
      refine ps_pcall c1 ?_
      refine pops_go ?_ ?_ (pops_end ?_)
      (repeat refine ka ?_); refine kr ?_ ?_ (pops_end ?_)
      (repeat refine ka ?_); refine kct ?_
      (repeat refine ka ?_); refine kr ?_ ?_ (pops_end ?_)
      (repeat refine ka ?_); refine kret ?_; repeat (first | with_reducible refine beh_r ?_ | with_reducible refine blk_r ?_)
      refine ends_ret ?_ retPV_one
      rfl
    rw [decide_eq_true hsm] at c1
    unfold Cd.pv Cd.row at c1
    (repeat refine ka ?_); refine kr ?_ ?_ (pops_end ?_)
    (repeat refine ka ?_); refine kct ?_
    (repeat refine ka ?_); refine ksk ?_
    (repeat refine ka ?_); refine kb ?_
    (repeat refine ka ?_); refine kr ?_ ?_ ?_
    refine ps_pcall c1 ?_
    refine pops_go ?_ ?_ (pops_end ?_)
    (repeat refine ka ?_); refine kr ?_ ?_ (pops_end ?_)
    (repeat refine ka ?_); refine kcf ?_
    (repeat refine ka ?_); refine ksk ?_
    refine kn ?_; repeat (first | with_reducible refine blk_n ?_ | with_reducible refine beh_n ?_)
    (repeat refine ka ?_); refine kr ?_ ?_ (pops_end ?_)
    refine kn ?_; repeat (first | with_reducible refine blk_n ?_ | with_reducible refine beh_n ?_)
    refine ⟨i + 1, ⟨by omega, fun x hx => ?_⟩, by omega, (holds 0 (by repeat (first | exact .nil | refine has1 ?_)))⟩
    rw [List.take_succ_eq_append_getElem h] at hx
    rcases List.mem_append.1 hx with hx | hx
    · exact hs x hx
    · simp only [List.mem_singleton] at hx
      rw [List.getElem?_eq_getElem h] at hc
      cases hc
      subst hx
      exact hsm
  obtain rfl : i = L.length := by omega
  rw [List.take_length] at hs
  have hLok : ∀ c ∈ L, c.ok := fun c hc => (hL c hc).ok (hs c hc)
  have hL2 : ∀ c ∈ L, c.W.length ≤ 100000 ∧ c.R.length ≤ 100000 := fun c hc => by have := hs c hc; omega
  have hn : L.length ≤ 20 := by omega
  clear hL
  have ht : ∀ c ∈ L.take m.toNat, c ∈ L := fun c hc => List.mem_of_mem_take hc
  have hd : ∀ c ∈ L.drop m.toNat, c ∈ L := fun c hc => List.mem_of_mem_drop hc
  have htn : (L.take m.toNat).length ≤ 20 := by rw [List.length_take]; omega
  have hdn : (L.drop m.toNat).length ≤ 20 := by rw [List.length_drop]; omega
  have c1 := lk_link L hLok hL2 (by omega)
  have c2 := lk_link (L.take m.toNat) (fun c hc => hLok c (ht c hc)) (fun c hc => hL2 c (ht c hc)) (by omega)
  have c3 := lk_link (L.drop m.toNat) (fun c hc => hLok c (hd c hc)) (fun c hc => hL2 c (hd c hc)) (by omega)
  have hbp := bad_parts L m.toNat
  rw [codeRows_take] at c2
  rw [codeRows_drop] at c3
  cases hb1 : badF (L.take m.toNat) with
  | true =>
    rw [hb1, Bool.true_or] at hbp
    rw [linkF_bad hbp] at c1
    rw [linkF_bad hb1] at c2
    generalize linkF (L.drop m.toNat) = C at *
    obtain ⟨C, e⟩ := C
    unfold Cd.pv Cd.row at c1 c2 c3
    dsimp only at c1 c2 c3
    (repeat refine ka ?_); refine kr ?_ ?_ (pops_end ?_)
    (repeat refine ka ?_); refine kcf ?_
    (repeat refine ka ?_); refine kx ?_; (repeat (first | with_reducible refine beh_x ?_ | with_reducible refine blk_up rfl ?_)); refine blk_here ?_; refine beh_n ?_
    (repeat refine ka ?_); refine kr ?_ ?_ ?_
    refine ps_pcall c1 ?_
    refine pops_go ?_ ?_ ?_
    refine ps_alloc fun g0 => ?_
    refine ps_store ?_
    refine pops_go ?_ ?_ (pops_end ?_)
    (repeat refine ka ?_); refine kr ?_ ?_ ?_
    refine ps_pcall c2 ?_
    refine pops_go ?_ ?_ ?_
    refine ps_alloc fun g1 => ?_
    refine ps_store ?_
    refine pops_go ?_ ?_ (pops_end ?_)
    (repeat refine ka ?_); refine kr ?_ ?_ ?_
    refine ps_pcall c3 ?_
    refine pops_go ?_ ?_ ?_
    refine ps_alloc fun g2 => ?_
    refine ps_store ?_
    refine pops_go ?_ ?_ (pops_end ?_)
    (repeat refine ka ?_); refine kr ?_ ?_ (pops_end ?_)
    (repeat refine ka ?_); refine kct ?_
    (repeat refine ka ?_); refine kr ?_ ?_ (pops_end ?_)
    (repeat refine ka ?_); refine kret ?_; repeat (first | with_reducible refine beh_r ?_ | with_reducible refine blk_r ?_)
    refine ends_ret ?_ retPV_one
    rfl
  | false =>
  cases hb2 : badF (L.drop m.toNat) with
  | true =>
    rw [hb2, Bool.or_true] at hbp
    rw [linkF_bad hbp] at c1
    rw [linkF_bad hb2] at c3
    rw [linkF_good hb1 (fun c hc => hs c (ht c hc)) htn] at c2
    generalize allTo (L.take m.toNat) (L.take m.toNat).length = B at *
    unfold Cd.pv Cd.row at c1 c2 c3
    dsimp only at c1 c2 c3
    (repeat refine ka ?_); refine kr ?_ ?_ (pops_end ?_)
    (repeat refine ka ?_); refine kcf ?_
    (repeat refine ka ?_); refine kx ?_; (repeat (first | with_reducible refine beh_x ?_ | with_reducible refine blk_up rfl ?_)); refine blk_here ?_; refine beh_n ?_
    (repeat refine ka ?_); refine kr ?_ ?_ ?_
    refine ps_pcall c1 ?_
    refine pops_go ?_ ?_ ?_
    refine ps_alloc fun g0 => ?_
    refine ps_store ?_
    refine pops_go ?_ ?_ (pops_end ?_)
    (repeat refine ka ?_); refine kr ?_ ?_ ?_
    refine ps_pcall c2 ?_
    refine pops_go ?_ ?_ ?_
    refine ps_alloc fun g1 => ?_
    refine ps_store ?_
    refine pops_go ?_ ?_ (pops_end ?_)
    (repeat refine ka ?_); refine kr ?_ ?_ ?_
    refine ps_pcall c3 ?_
    refine pops_go ?_ ?_ ?_
    refine ps_alloc fun g2 => ?_
    refine ps_store ?_
    refine pops_go ?_ ?_ (pops_end ?_)
    (repeat refine ka ?_); refine kr ?_ ?_ (pops_end ?_)
    (repeat refine ka ?_); refine kct ?_
    (repeat refine ka ?_); refine kr ?_ ?_ (pops_end ?_)
    (repeat refine ka ?_); refine kret ?_; repeat (first | with_reducible refine beh_r ?_ | with_reducible refine blk_r ?_)
    refine ends_ret ?_ retPV_one
    rfl
  | false =>
  rw [hb1, hb2, Bool.or_false] at hbp
  have gL := gd_of hbp hLok
  have gT : ∀ c ∈ L.take m.toNat, c.gd := fun c hc => gL c (ht c hc)
  have gD : ∀ c ∈ L.drop m.toNat, c.gd := fun c hc => gL c (hd c hc)
  have hsT := allTo_6000 (L := L.take m.toNat) (fun c hc => hs c (ht c hc)) htn
  have hsD := allTo_6000 (L := L.drop m.toNat) (fun c hc => hs c (hd c hc)) hdn
  have hsL := allTo_6000 hs hn
  have gA := allTo_gd gL _ (Nat.le_refl _)
  have gB := allTo_gd gT _ (Nat.le_refl _)
  have gC := allTo_gd gD _ (Nat.le_refl _)
  have hlp := link_parts gT gD
  rw [List.take_append_drop] at hlp
  rw [linkF_good hbp hs hn] at c1
  rw [linkF_good hb1 (fun c hc => hs c (ht c hc)) htn] at c2
  rw [linkF_good hb2 (fun c hc => hs c (hd c hc)) hdn] at c3
  generalize allTo L L.length = A at *
  generalize allTo (L.take m.toNat) (L.take m.toNat).length = B at *
  generalize allTo (L.drop m.toNat) (L.drop m.toNat).length = C at *
  have okA := gA.ok (by omega) (by omega)
  have okB := gB.ok (by omega) (by omega)
  have okC := gC.ok (by omega) (by omega)
  have c4 := lk_link [B, C] (by intro c hc; simp at hc; rcases hc with rfl | rfl; exact okB; exact okC) (by intro c hc; simp at hc; rcases hc with rfl | rfl <;> omega) (by simp)
  have e4 : linkF [B, C] = (A, 0) := by
    unfold linkF
    rw [if_neg (by simp [badF, gB.rt, gC.rt]), show [B, C].length = 2 from rfl, hlp, if_neg (by omega)]
  rw [e4] at c4
  have c5 := asm_same A (by omega) (by omega)
  have c6 := lk_right A okA
  rw [gA.rt] at c6
  simp only [codeRows, List.map_cons, List.map_nil] at c4
  unfold Cd.pv Cd.row at c1 c2 c3 c4 c5 c6
  dsimp only at c1 c2 c3 c4 c5 c6
  (repeat refine ka ?_); refine kr ?_ ?_ (pops_end ?_)
  (repeat refine ka ?_); refine kcf ?_
  (repeat refine ka ?_); refine kx ?_; (repeat (first | with_reducible refine beh_x ?_ | with_reducible refine blk_up rfl ?_)); refine blk_here ?_; refine beh_n ?_
  (repeat refine ka ?_); refine kr ?_ ?_ ?_
  refine ps_pcall c1 ?_
  refine pops_go ?_ ?_ ?_
  refine ps_alloc fun g0 => ?_
  refine ps_store ?_
  refine pops_go ?_ ?_ (pops_end ?_)
  (repeat refine ka ?_); refine kr ?_ ?_ ?_
  refine ps_pcall c2 ?_
  refine pops_go ?_ ?_ ?_
  refine ps_alloc fun g1 => ?_
  refine ps_store ?_
  refine pops_go ?_ ?_ (pops_end ?_)
  (repeat refine ka ?_); refine kr ?_ ?_ ?_
  refine ps_pcall c3 ?_
  refine pops_go ?_ ?_ ?_
  refine ps_alloc fun g2 => ?_
  refine ps_store ?_
  refine pops_go ?_ ?_ (pops_end ?_)
  (repeat refine ka ?_); refine kr ?_ ?_ (pops_end ?_)
  (repeat refine ka ?_); refine kcf ?_
  (repeat refine ka ?_); refine ksk ?_
  (repeat refine ka ?_); refine kr ?_ ?_ ?_
  refine ps_litf (rows := [[.ro 1 false (ints .u32 B.W), .ro 2 false (relRows B.R)], [.ro 1 false (ints .u32 C.W), .ro 2 false (relRows C.R)]]) (fun g3 => ?_) (codeRows_pure [B, C])
  refine ps_pcall c4 ?_
  refine pops_go ?_ ?_ ?_
  refine ps_alloc fun g4 => ?_
  refine ps_store ?_
  refine pops_go ?_ ?_ (pops_end ?_)
  (repeat refine ka ?_); refine kr ?_ ?_ ?_
  refine ps_pcall_g c5 ?_
  refine pops_go ?_ ?_ ?_
  refine ps_pcall_g c6 ?_
  refine pops_go ?_ ?_ (pops_end ?_)
  (repeat refine ka ?_); refine kret ?_; repeat (first | with_reducible refine beh_r ?_ | with_reducible refine blk_r ?_)
  refine ends_ret ?_ retPV_one
  rfl
end Go.Proofs.Ytjbbomchmacdjaa.Pv
