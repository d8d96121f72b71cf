-- A region that draws its order: readings, one operation that writes, readings of what it gave.
import Derived.Test.YtfjodfeoncoaoaaIfc
namespace Go.Proofs.Ytfjodfeoncoaoaa.Pv
set_option linter.all false
open Go.RowKit Go.Proofs
set_option maxRecDepth 100000
set_option maxHeartbeats 4000000
variable {ro : Option Nat} {mm : Nat}
def midB (ops : Array Oper) (m : Nat) : Bool := decide (m < ops.size) && (match ops[m]? with | some o => o.guard.isNone | none => false) && (List.range m).all (fun k => waits ops 24 m k) && (List.range' (m + 1) (ops.size - (m + 1))).all fun i => (List.range (m + 1)).all fun k => waits ops 24 i k
theorem any_mid {P : Program} {ops : Array Oper} {Q : Exit → PS → Prop} (hok : drawOk ops = true) {m : Nat} (hm : m < ops.size) {om : Oper} (hom : ops[m]? = some om) (hgm : om.guard = none) (hw0 : ∀ k, k < m → waits ops 24 m k = true) (hw : ∀ i, m < i → i < ops.size → ∀ k, k ≤ m → waits ops 24 i k = true) :
    ∀ (fuel : Nat) (listed : Array Bool) (l : List Nat) (c0 c : Cx) (σ : PS) (a : Act), l.length = fuel → (∀ k ∈ l, k < m) → Left ops listed (l ++ m :: List.range' (m + 1) (ops.size - (m + 1))) → Closed ops listed → Step c0 c → Rel c σ a → (∀ o ∈ ops.toList, dstOk σ.n o = true) →
    PSt P ops (fun σ' => ∃ σ'', LEq σ' σ'' ∧ Pops P ops.toList (fun σ3 => PSt P ops (fun σ4 => ∃ σ5, LEq σ4 σ5 ∧ Q .normal σ5) (List.range' (m + 1) (ops.size - (m + 1))) σ3) [om] σ'') l σ → wpAnyIn (FR ro) mm P .any ops (Post c0 Q) (fuel + (ops.size - m)) listed a c.w := by
  have hQ : ∀ σ σ', LEq σ σ' → (∃ σ'', LEq σ σ'' ∧ Pops P ops.toList (fun σ3 => PSt P ops (fun σ4 => ∃ σ5, LEq σ4 σ5 ∧ Q .normal σ5) (List.range' (m + 1) (ops.size - (m + 1))) σ3) [om] σ'') → ∃ σ'', LEq σ' σ'' ∧ Pops P ops.toList (fun σ3 => PSt P ops (fun σ4 => ∃ σ5, LEq σ4 σ5 ∧ Q .normal σ5) (List.range' (m + 1) (ops.size - (m + 1))) σ3) [om] σ'' := fun σ σ' h ⟨σ'', h1, h2⟩ => ⟨σ'', h.symm.trans h1, h2⟩
  intro fuel
  induction fuel with
  | zero =>
    intro listed l c0 c σ a hlen hkm hl hcl hs r hd h
    obtain rfl := List.eq_nil_of_length_eq_zero hlen
    obtain ⟨σ'', g1, g2⟩ := h
    have r' := r.leq g1
    have hd' : ∀ o ∈ ops.toList, dstOk σ''.n o = true := by rw [← g1.1]; exact hd
    rw [Nat.zero_add, show ops.size - m = (ops.size - (m + 1)) + 1 by omega]
    rw [List.nil_append] at hl
    refine ⟨fun h0 => ?_, fun i hi => ?_⟩
    · rw [List.eq_nil_iff_forall_not_mem] at h0; exact absurd (head_ready hok hl) (h0 m)
    · obtain ⟨h1, h2, o, ho, hp⟩ := ready_spec hi
      have him := (hl.mem i).2 ⟨h1, h2⟩
      have hi0 : i = m := by
        rcases List.mem_cons.1 him with him | him
        · exact him
        · obtain ⟨k1, k2⟩ := List.mem_range'_1.1 him
          have := hcl.waits 24 i m o ho hp (hw i (by omega) h1 m (Nat.le_refl _))
          exact absurd (List.mem_cons_self) (hl.pred this)
      subst hi0
      rw [ho] at hom
      cases hom
      unfold Pops at g2
      rw [hgm] at g2
      have hdo : ∀ t, om.dst = some t → t < σ''.n := dstOk_lt (hd' om (by rw [← Array.getElem?_toList] at ho; exact List.mem_of_getElem? ho))
      have hnd : notDefer om = true := dstOk_nd (hd' om (by rw [← Array.getElem?_toList] at ho; exact List.mem_of_getElem? ho))
      unfold wpOpIn
      simp only [ho]
      rw [if_pos (by simp [Region.wanted, hgm])]
      refine wpIn_of_wp hnd (g2 c a r' _ _ (fun x c' v hK hi' hst hv => ?_))
      have rr := r'.put hst hi' hv hdo
      refine any_of_pst hok _ _ _ c0 c' _ _ (by simp) (hl.take (l1 := [])) (hs.trans hst) rr ?_ hK
      intro o' ho'
      have : (σ''.put om.dst x c'.S).n = σ''.n := by cases om.dst <;> rfl
      rw [this]
      exact hd' o' ho'
  | succ fuel ih =>
    intro listed l c0 c σ a hlen hkm hl hcl hs r hd h
    rw [Nat.succ_add]
    refine ⟨fun h0 => ?_, fun i hi => ?_⟩
    · cases l with
      | nil => simp at hlen
      | cons i l => rw [List.eq_nil_iff_forall_not_mem] at h0; exact absurd (head_ready hok hl) (h0 i)
    · obtain ⟨h1, h2, o, ho, hp⟩ := ready_spec hi
      have him := (hl.mem i).2 ⟨h1, h2⟩
      rcases List.mem_append.1 him with him | him
      · obtain ⟨l1, l2, rfl⟩ := List.append_of_mem him
        rw [List.append_assoc, List.cons_append] at hl
        have hf := PSt.front hQ ho l1 l2 σ (left_apart hok hl ho hp) h
        unfold PSt at hf
        simp only [ho] at hf
        obtain ⟨x, g1, g2⟩ := hf
        refine wpOp_of_gst ho hd r g1 (fun c' a' hst hr => ?_)
        have hl' := hl.take
        rw [← List.append_assoc] at hl'
        refine ih _ (l1 ++ l2) c0 c' _ a' (by simp at hlen ⊢; omega) (fun k hk => hkm k (by simp at hk ⊢; rcases hk with hk | hk <;> simp [hk])) hl' (hcl.take ho hp) (hs.trans hst) hr ?_ g2
        intro o' ho'
        have : (σ.put o.dst x σ.S).n = σ.n := by cases o.dst <;> rfl
        rw [this]
        exact hd o' ho'
      · have him' : i = m ∨ m < i := by
          rcases List.mem_cons.1 him with him | him
          · exact .inl him
          · have := List.mem_range'_1.1 him
            exact .inr (by omega)
        cases l with
        | nil => simp at hlen
        | cons k l =>
          have hk : k < m := hkm k (by simp)
          have : waits ops 24 i k = true := by
            rcases him' with rfl | him
            · exact hw0 k hk
            · exact hw i him h1 k (by omega)
          have := hcl.waits 24 i k o ho hp this
          exact absurd (by simp) (hl.pred this)
theorem kdm {P : Program} {id : Nat} {ops : Array Oper} {l : List Code} {σ : PS} {Q : Exit → PS → Prop} (m : Nat) (k : PStL P ops.toList (fun σ1 => Pops P ops.toList (fun σ2 => PStL P ops.toList (fun σ' => Tk P l σ' Q) (ops.toList.drop (m + 1)) σ2) ((ops.toList.drop m).take 1) σ1) (ops.toList.take m) σ) [hm : Mixed P] (hd : ops.toList.all (fun o => dstOk σ.n o) = true := by kernel_rfl) (hok : drawOk ops = true := by kernel_rfl) (ht : midB ops m = true := by kernel_rfl) : Tk P (.region id ops true :: l) σ Q := by
  intro ro mm c a r hro
  have hd' := List.all_eq_true.1 hd
  unfold midB at ht
  simp only [Bool.and_eq_true, decide_eq_true_eq, List.all_eq_true] at ht
  obtain ⟨⟨⟨hms, hgm⟩, hw0⟩, hall⟩ := ht
  obtain ⟨om, hom, hg⟩ : ∃ o, ops[m]? = some o ∧ o.guard = none := by
    split at hgm
    · rename_i o ho
      exact ⟨o, ho, by simpa using hgm⟩
    · cases hgm
  have hdrop : ops.toList.drop m = om :: ops.toList.drop (m + 1) := by
    rw [List.drop_eq_getElem_cons (by simpa using hms)]
    congr 1
    have := hom
    rw [Array.getElem?_eq_getElem hms] at this
    simpa using this
  rw [hdrop, show (om :: ops.toList.drop (m + 1)).take 1 = [om] from rfl] at k
  have pst := pst_of_pre (ops.toList.take m) 0 σ (fun j hj => by
    rw [List.length_take] at hj
    rw [List.getElem?_take, if_pos (by omega), Nat.zero_add, Array.getElem?_toList]) k
  rw [show (ops.toList.take m).length = m by rw [List.length_take, Array.length_toList]; omega] at pst
  refine wpIn_region_any hm.h ?_
  obtain ⟨c', h1, h2, h3⟩ := r.drew (c.w.drawn + 1)
  rw [← h2]
  have hleft := left_all ops
  rw [show List.range ops.size = List.range' 0 m ++ m :: List.range' (m + 1) (ops.size - (m + 1)) by
    rw [← List.range'_succ, List.range_eq_range', show ops.size = m + (ops.size - m) by omega]
    have := List.range'_append_1 (s := 0) (m := m) (n := ops.size - m)
    rw [Nat.zero_add] at this
    rw [← this]
    congr 2
    omega] at hleft
  have key := any_mid (ro := ro) (mm := mm) (P := P) (ops := ops) (Q := behind (fun σ' => Tk P l σ' Q) Q) hok hms hom hg (fun k hk => hw0 k (by simpa using hk)) (fun i h1 h2 k hk => hall i (List.mem_range'_1.2 ⟨by omega, by omega⟩) k (by simp; omega)) m _ (List.range' 0 m) c c' σ a (by simp) (fun k hk => by have := List.mem_range'_1.1 hk; omega) hleft (fun j o ho hj => by
      rw [Array.getD_eq_getD_getElem?, Array.getElem?_replicate] at hj
      split at hj <;> simp at hj) h1 h3 hd' (pst_mono (fun σ' h => ⟨σ', .rfl' σ', pops_mono (fun σ2 h2 => by
        have := pst_of_list (P := P) (ops := ops) (Q := fun σ' => Tk P l σ' Q) (ops.toList.drop (m + 1)) (m + 1) σ2 (fun j => by rw [List.getElem?_drop, Array.getElem?_toList]) h2
        rw [show (ops.toList.drop (m + 1)).length = ops.size - (m + 1) by rw [List.length_drop, Array.length_toList]] at this
        exact pst_mono (fun σ4 h4 => ⟨σ4, .rfl' σ4, h4⟩) _ _ this) _ _ h⟩) _ _ pst)
  rw [show m + (ops.size - m) = ops.size by omega] at key
  exact key
end Go.Proofs.Ytfjodfeoncoaoaa.Pv
