-- Twenty-fifth text: regions that draw their order, whose last operation writes.
import Derived.Test.YtaaealngifkaeaaPvZ
namespace Go.Proofs.Ytaaealngifkaeaa.Pv
set_option linter.all false
open Go.RowKit
set_option linter.unusedVariables false
/-- The last operation waits for all others. -/
def lastB (ops : Array Oper) : Bool :=
  match ops[ops.size - 1]? with
  | some o => o.guard.isNone && (List.range (ops.size - 1)).all fun k => o.after.any fun e => e.on == k && Region.binds .any e
  | none => false

theorem any_last {P : Program} {ops : Array Oper} {Q : Exit → PS → Prop} (hok : drawOk ops = true) {m : Nat} {oL : Oper} (hm : ops[m]? = some oL) (hsz : ops.size = m + 1) (hg : oL.guard = none)
    (hlast : ∀ k, k < m → ∃ e ∈ oL.after, e.on = k ∧ Region.binds .any e = true) : ∀ (fuel : Nat) (listed : Array Bool) (l : List Nat) (c0 c : Cx) (σ : PS) (a : Act), l.length = fuel → Left ops listed (l ++ [m]) → Step c0 c → Rel c σ a → (∀ o ∈ ops.toList, dstOk σ.n o = true) →
    PSt P ops (fun σ' => ∃ σ'', LEq σ' σ'' ∧ PopSem P σ'' oL (fun x S' => Q .normal (σ''.put oL.dst x S'))) l σ → wpAny P .any ops (Post c0 Q) (fuel + 1) listed a c.w := by
  have hQ : ∀ σ σ', LEq σ σ' → (∃ σ'', LEq σ σ'' ∧ PopSem P σ'' oL (fun x S' => Q .normal (σ''.put oL.dst x S'))) → ∃ σ'', LEq σ' σ'' ∧ PopSem P σ'' oL (fun x S' => Q .normal (σ''.put oL.dst x S')) := fun σ σ' h ⟨σ'', h1, h2⟩ => ⟨σ'', h.symm.trans h1, h2⟩
  have nil : ∀ listed, Left ops listed [] → Region.ready .any ops listed = [] := by
    intro listed hl
    rw [List.eq_nil_iff_forall_not_mem]
    intro i hi
    obtain ⟨h1, h2, _⟩ := ready_spec hi
    have := (hl.mem i).2 ⟨h1, h2⟩
    simp at this
  intro fuel
  induction fuel with
  | zero =>
    intro listed l c0 c σ a hlen hl hs r hd h
    obtain rfl := List.eq_nil_of_length_eq_zero hlen
    refine ⟨fun h0 => ?_, fun i hi => ?_⟩
    · rw [List.eq_nil_iff_forall_not_mem] at h0
      exact absurd (head_ready hok hl) (h0 m)
    · obtain ⟨h1, h2, o, ho, hp⟩ := ready_spec hi
      have him := (hl.mem i).2 ⟨h1, h2⟩
      simp at him
      subst him
      rw [hm] at ho
      cases ho
      obtain ⟨σ'', g1, g2⟩ := h
      have r' := r.leq g1
      have hd' : ∀ o ∈ ops.toList, dstOk σ''.n o = true := by rw [← g1.1]; exact hd
      have hdo : ∀ t, oL.dst = some t → t < σ''.n := fun t ht => by
        have := hd' oL (by rw [← Array.getElem?_toList] at hm; exact List.mem_of_getElem? hm)
        simpa [dstOk, ht] using this
      unfold wpOp
      simp only [hm]
      rw [if_pos (by simp [Region.wanted, hg])]
      refine .inl (g2 c a r' _ _ (fun x c' v hK hi' hst hv => ?_))
      have rr := r'.put hst hi' hv hdo
      have hl0 : Left ops (listed.setIfInBounds i true) [] := by
        have := hl.take (l1 := []) (l2 := [])
        exact this
      exact ⟨nil _ hl0, ⟨c', _, hs.trans hst, rfl, rr, hK⟩⟩
  | succ fuel ih =>
    intro listed l c0 c σ a hlen hl hs r hd h
    refine ⟨fun h0 => ?_, fun i hi => ?_⟩
    · cases l with
      | nil => simp at hlen
      | cons i l => rw [List.eq_nil_iff_forall_not_mem] at h0; exact absurd (head_ready hok hl) (h0 i)
    · obtain ⟨h1, h2, o, ho, hp⟩ := ready_spec hi
      have him := (hl.mem i).2 ⟨h1, h2⟩
      rcases List.mem_append.1 him with him | him
      · obtain ⟨l1, l2, rfl⟩ := List.append_of_mem him
        rw [List.append_assoc, List.cons_append] at hl
        have hf := PSt.front hQ ho l1 l2 σ (left_apart hok hl ho hp) h
        unfold PSt at hf
        simp only [ho] at hf
        obtain ⟨x, g1, g2⟩ := hf
        refine wpOp_of_gst ho hd r g1 (fun c' a' hst hr => ?_)
        have hl' := hl.take
        rw [← List.append_assoc] at hl'
        refine ih _ (l1 ++ l2) c0 c' _ a' (by simp at hlen ⊢; omega) hl' (hs.trans hst) hr ?_ g2
        intro o' ho'
        have : (σ.put o.dst x σ.S).n = σ.n := by cases o.dst <;> rfl
        rw [this]
        exact hd o' ho'
      · simp at him
        subst him
        rw [hm] at ho
        cases ho
        cases l with
        | nil => simp at hlen
        | cons k l =>
          have hk := (hl.mem k).1 (by simp)
          have hkm : k < i := by
            have := hl.sorted
            simp only [List.cons_append, List.pairwise_cons] at this
            exact this.1 i (by simp)
          obtain ⟨e, he, hek, hbd⟩ := hlast k hkm
          have := hl.pred (hp e he hbd)
          rw [hek] at this
          exact absurd (by simp) this

theorem pst_mono {P : Program} {ops : Array Oper} {Q Q' : PS → Prop} (hq : ∀ σ, Q σ → Q' σ) : ∀ (l : List Nat) (σ : PS), PSt P ops Q l σ → PSt P ops Q' l σ := by
  intro l
  induction l with
  | nil => intro σ h; exact hq σ h
  | cons i l ih =>
    intro σ h
    unfold PSt at h ⊢
    split
    · rename_i ho; simp only [ho] at h; exact ih _ h
    · rename_i o ho
      simp only [ho] at h
      obtain ⟨x, g1, g2⟩ := h
      exact ⟨x, g1, ih _ g2⟩

theorem pst_of_pre {P : Program} {ops : Array Oper} {Q : PS → Prop} : ∀ (l : List Oper) (k : Nat) (σ : PS), (∀ j, j < l.length → l[j]? = ops[k + j]?) → PStL P ops.toList Q l σ → PSt P ops Q (List.range' k l.length) σ
  | [], k, σ, _, h => h
  | o :: l, k, σ, hl, h => by
    have h0 : ops[k]? = some o := by simpa using (hl 0 (by simp)).symm
    obtain ⟨x, g1, g2⟩ := h
    simp only [List.length_cons, List.range'_succ, PSt, h0]
    exact ⟨x, g1, pst_of_pre l (k + 1) _ (fun j hj => by have := hl (j + 1) (by simpa using hj); simpa [Nat.add_assoc, Nat.add_comm 1 j] using this) g2⟩

theorem evr_init {P : Program} {L : List Pr} {x : Pr} {σ σ' : PS} (h : EvR P (L ++ [x]) σ σ' 1) : EvR P L σ σ' 0 := by
  generalize hl : L ++ [x] = M at h
  generalize hn : 1 = n at h
  induction h generalizing L with
  | stop l σ =>
    subst hl
    have : L = [] := by
      cases L with
      | nil => rfl
      | cons a L => simp at hn
    subst this
    exact .stop [] σ
  | step hg h k ih =>
    cases L with
    | nil =>
      simp at hl
      obtain ⟨rfl, rfl⟩ := hl
      cases k
      simp at hn
    | cons a L =>
      simp at hl
      obtain ⟨rfl, rfl⟩ := hl
      exact .step hg h (ih rfl hn)
  | skip hg hb hw k ih =>
    cases L with
    | nil =>
      simp at hl
      obtain ⟨rfl, rfl⟩ := hl
      cases k
      simp at hn
    | cons a L =>
      simp at hl
      obtain ⟨rfl, rfl⟩ := hl
      exact .skip hg hb hw (ih rfl hn)

/-- Such a region, all but its last operation done. -/
theorem kdw {P : Program} {id : Nat} {ops : Array Oper} {l : List Code} {σ : PS} {Q : Exit → PS → Prop} (σ' : PS) (k : Pops P ops.toList (fun σ' => Tk P l σ' Q) (lastN ops.toList 1) σ') [hm : Mixed P] (hd : ops.toList.all (fun o => dstOk σ.n o && gOk ops.toList o) = true := by kernel_rfl) (hok : drawOk ops = true := by kernel_rfl) (hlb : lastB ops = true := by kernel_rfl)
    (he : EvR P (prs ops.toList ops.toList) σ σ' 1 := by repeat (first | (refine is_c ?_; first | (refine is_u ?_; first | (refine is_mv ?_; refine es_mv ?_) | (refine is_as ?_; refine es_as ?_) | (refine is_bin ?_; first | (refine is_b_lss ?_; first | refine es_lt_t ?_ | refine es_lt_f ?_ | refine es_lt ?_) | (refine is_b_leq ?_; first | refine es_le_t ?_ | refine es_le_f ?_ | refine es_le ?_) | (refine is_b_gtr ?_; first | refine es_gt_t ?_ | refine es_gt_f ?_ | refine es_gt ?_) | (refine is_b_geq ?_; first | refine es_ge_t ?_ | refine es_ge_f ?_ | refine es_ge ?_) | (refine is_b_eql ?_; first | refine es_eq_t ?_ | refine es_eq_f ?_ | refine es_eq ?_ | refine es_seq_t ?_ | refine es_seq_f ?_ | refine es_seq ?_ | refine es_aeq_t ?_ | refine es_aeq ?_ | refine es_beq ?_ | refine es_eqn_ro ?_ | refine es_eqn_nil ?_ | refine es_eqp_ptr ?_ | refine es_eqp_nil ?_) | (refine is_b_neq ?_; first | refine es_ne_t ?_ | refine es_ne_f ?_ | refine es_ne ?_ | refine es_sne_t ?_ | refine es_sne_f ?_ | refine es_sne ?_ | refine es_ane_f ?_ | refine es_ane ?_ | refine es_bne ?_ | refine es_nen_ro ?_ | refine es_nen_nil ?_ | refine es_nep_ptr ?_ | refine es_nep_nil ?_) | (refine is_b_add ?_; first | refine es_add ?_ | refine es_sadd ?_) | (refine is_b_sub ?_; refine es_sub ?_) | (refine is_b_mul ?_; refine es_mul ?_) | (refine is_b_quo ?_; refine es_quo ?_) | (refine is_b_rem ?_; refine es_rem ?_) | (refine is_b_and ?_; refine es_and ?_) | (refine is_b_or ?_; refine es_or ?_) | (refine is_b_xor ?_; refine es_xor ?_) | (refine is_b_andNot ?_; refine es_andn ?_) | (refine is_b_shl ?_; refine es_shl ?_) | (refine is_b_shr ?_; refine es_shr ?_)) | (refine is_ld ?_; first | refine es_ld_rp ?_ | refine es_lda_rp ?_ | refine es_ld_ptr ?_ | refine es_lda_ptr ?_) | (refine is_ixa ?_; first | refine es_ix_ro ?_ | refine es_ix_vw ?_ | refine es_ix_arr ?_) | (refine is_ix ?_; first | refine es_six ?_ | refine es_aix ?_) | (refine is_fa ?_; first | refine es_fa_ptr ?_ | refine es_fa_rp ?_) | (refine is_ext ?_; refine es_ext ?_) | (refine is_pick ?_; first | refine es_pick_t ?_ | refine es_pick_f ?_ | refine es_pick ?_) | (refine is_call ?_; first | refine es_slen ?_ | refine es_len_ro ?_ | refine es_len_vw ?_ | refine es_len_nil ?_ | refine es_len_str ?_ | refine es_min ?_ | refine es_max ?_) | (refine is_conv ?_; refine es_conv ?_) | (refine is_un ?_; first | refine es_not_t ?_ | refine es_not_f ?_ | refine es_not ?_ | refine es_neg ?_) | (refine is_fv ?_; first | refine es_fv ?_ | refine es_fva ?_) | (refine is_nil ?_; first | refine es_nil_ptr ?_ | refine es_nil_fn ?_) | (refine is_bld ?_; refine es_bld ?_) | (refine is_mf ?_; refine es_mf ?_) | (refine is_sl ?_; first | refine es_sl_h ?_ | refine es_sl_l ?_ | refine es_sl_b ?_ | refine es_ssl_h ?_ | refine es_ssl_l ?_ | refine es_ssl_b ?_ | refine es_vsl_h ?_ | refine es_vsl_l ?_ | refine es_vsl_b ?_ | refine es_vsl_3 ?_)) | (refine es_guard ?_; first | (refine is_mv ?_; refine es_mv ?_) | (refine is_as ?_; refine es_as ?_) | (refine is_bin ?_; first | (refine is_b_lss ?_; first | refine es_lt_t ?_ | refine es_lt_f ?_ | refine es_lt ?_) | (refine is_b_leq ?_; first | refine es_le_t ?_ | refine es_le_f ?_ | refine es_le ?_) | (refine is_b_gtr ?_; first | refine es_gt_t ?_ | refine es_gt_f ?_ | refine es_gt ?_) | (refine is_b_geq ?_; first | refine es_ge_t ?_ | refine es_ge_f ?_ | refine es_ge ?_) | (refine is_b_eql ?_; first | refine es_eq_t ?_ | refine es_eq_f ?_ | refine es_eq ?_ | refine es_seq_t ?_ | refine es_seq_f ?_ | refine es_seq ?_ | refine es_aeq_t ?_ | refine es_aeq ?_ | refine es_beq ?_ | refine es_eqn_ro ?_ | refine es_eqn_nil ?_ | refine es_eqp_ptr ?_ | refine es_eqp_nil ?_) | (refine is_b_neq ?_; first | refine es_ne_t ?_ | refine es_ne_f ?_ | refine es_ne ?_ | refine es_sne_t ?_ | refine es_sne_f ?_ | refine es_sne ?_ | refine es_ane_f ?_ | refine es_ane ?_ | refine es_bne ?_ | refine es_nen_ro ?_ | refine es_nen_nil ?_ | refine es_nep_ptr ?_ | refine es_nep_nil ?_) | (refine is_b_add ?_; first | refine es_add ?_ | refine es_sadd ?_) | (refine is_b_sub ?_; refine es_sub ?_) | (refine is_b_mul ?_; refine es_mul ?_) | (refine is_b_quo ?_; refine es_quo ?_) | (refine is_b_rem ?_; refine es_rem ?_) | (refine is_b_and ?_; refine es_and ?_) | (refine is_b_or ?_; refine es_or ?_) | (refine is_b_xor ?_; refine es_xor ?_) | (refine is_b_andNot ?_; refine es_andn ?_) | (refine is_b_shl ?_; refine es_shl ?_) | (refine is_b_shr ?_; refine es_shr ?_)) | (refine is_ld ?_; first | refine es_ld_rp ?_ | refine es_lda_rp ?_ | refine es_ld_ptr ?_ | refine es_lda_ptr ?_) | (refine is_ixa ?_; first | refine es_ix_ro ?_ | refine es_ix_vw ?_ | refine es_ix_arr ?_) | (refine is_ix ?_; first | refine es_six ?_ | refine es_aix ?_) | (refine is_fa ?_; first | refine es_fa_ptr ?_ | refine es_fa_rp ?_) | (refine is_ext ?_; refine es_ext ?_) | (refine is_pick ?_; first | refine es_pick_t ?_ | refine es_pick_f ?_ | refine es_pick ?_) | (refine is_call ?_; first | refine es_slen ?_ | refine es_len_ro ?_ | refine es_len_vw ?_ | refine es_len_nil ?_ | refine es_len_str ?_ | refine es_min ?_ | refine es_max ?_) | (refine is_conv ?_; refine es_conv ?_) | (refine is_un ?_; first | refine es_not_t ?_ | refine es_not_f ?_ | refine es_not ?_ | refine es_neg ?_) | (refine is_fv ?_; first | refine es_fv ?_ | refine es_fva ?_) | (refine is_nil ?_; first | refine es_nil_ptr ?_ | refine es_nil_fn ?_) | (refine is_bld ?_; refine es_bld ?_) | (refine is_mf ?_; refine es_mf ?_) | (refine is_sl ?_; first | refine es_sl_h ?_ | refine es_sl_l ?_ | refine es_sl_b ?_ | refine es_ssl_h ?_ | refine es_ssl_l ?_ | refine es_ssl_b ?_ | refine es_vsl_h ?_ | refine es_vsl_l ?_ | refine es_vsl_b ?_ | refine es_vsl_3 ?_)) | refine es_skip ?_) | exact EvR.stop _ _)) : Tk P (.region id ops true :: l) σ Q := by
  intro c a r
  have hd' := List.all_eq_true.1 hd
  unfold lastB at hlb
  split at hlb
  · rename_i oL hL
    simp only [Bool.and_eq_true, Option.isNone_iff_eq_none] at hlb
    obtain ⟨hg, hlast⟩ := hlb
    have hlt : ops.size - 1 < ops.size := (Array.getElem?_eq_some_iff.1 hL).1
    have hsplit : ops.toList = ops.toList.take (ops.size - 1) ++ [oL] := by
      have h1 : ops.toList.drop (ops.size - 1) = [oL] := by
        rw [List.drop_eq_getElem_cons (by simpa using hlt)]
        have h2 : ops.toList[ops.size - 1]'(by simpa using hlt) = oL := by
          have := hL
          rw [Array.getElem?_eq_getElem hlt] at this
          simpa using this
        rw [h2, List.drop_eq_nil_of_le (by simp; omega)]
      rw [← h1, List.take_append_drop]
    have hlN : lastN ops.toList 1 = [oL] := by
      unfold lastN
      rw [Array.length_toList, List.drop_eq_getElem_cons (by simpa using hlt)]
      have h2 : ops.toList[ops.size - 1]'(by simpa using hlt) = oL := by
        have := hL
        rw [Array.getElem?_eq_getElem hlt] at this
        simpa using this
      rw [h2, List.drop_eq_nil_of_le (by simp; omega)]
    rw [hlN] at k
    have kp : PopSem P σ' oL (fun x S' => Tk P l (σ'.put oL.dst x S') Q) := by
      unfold Pops at k
      rw [hg] at k
      exact k
    have he' : EvR P (prs ops.toList (ops.toList.take (ops.size - 1))) σ σ' 0 := by
      have h3 : prs ops.toList ops.toList = prs ops.toList (ops.toList.take (ops.size - 1)) ++ [prOf ops.toList oL] := by
        conv => lhs; rw [prs, hsplit]
        rw [List.map_append]
        simp only [prs, List.map_cons, List.map_nil, ← hsplit]
      rw [h3] at he
      exact evr_init he
    have pre := pstl_evr (P := P) (ops := ops.toList) (Q := fun σ' => ∃ σ'', LEq σ' σ'' ∧ PopSem P σ'' oL (fun x S' => behind (fun σ' => Tk P l σ' Q) Q .normal (σ''.put oL.dst x S'))) (ops.toList.take (ops.size - 1)) σ σ' 0
      (fun o ho => (Bool.and_eq_true_iff.1 (hd' o (List.mem_of_mem_take ho))).2) he' (by rw [lastN_zero]; exact ⟨σ', .rfl' σ', kp⟩)
    have pst := pst_of_pre (ops.toList.take (ops.size - 1)) 0 σ (fun j hj => by
      rw [List.length_take] at hj
      rw [List.getElem?_take, if_pos (by omega), Nat.zero_add, Array.getElem?_toList]) pre
    refine wp_region_any hm.h ?_
    obtain ⟨c', h1, h2, h3⟩ := r.drew (c.w.drawn + 1)
    rw [← h2]
    have hlen : (ops.toList.take (ops.size - 1)).length = ops.size - 1 := by rw [List.length_take, Array.length_toList]; omega
    rw [hlen] at pst
    have hrange : List.range ops.size = List.range' 0 (ops.size - 1) ++ [ops.size - 1] := by
      conv => lhs; rw [show ops.size = (ops.size - 1) + 1 by omega, List.range_succ]
      rw [List.range_eq_range']
    have hleft := left_all ops
    rw [hrange] at hleft
    have key := any_last (P := P) (ops := ops) (Q := behind (fun σ' => Tk P l σ' Q) Q) hok hL (by omega) hg (fun k hk => by
      have := (List.all_eq_true.1 hlast) k (by simpa using hk)
      obtain ⟨e, he, hb⟩ := Array.any_eq_true'.1 this
      simp only [Bool.and_eq_true, beq_iff_eq] at hb
      exact ⟨e, he, hb.1, hb.2⟩) (ops.size - 1) _ (List.range' 0 (ops.size - 1)) c c' σ a (by simp) hleft h1 h3 (fun o ho => (Bool.and_eq_true_iff.1 (hd' o ho)).1) pst
    rw [show ops.size - 1 + 1 = ops.size by omega] at key
    exact key
  · cases hlb
end Go.Proofs.Ytaaealngifkaeaa.Pv
