/- Go values read as pure values: generic laws of walks (text written by a program of this session out of its parts). -/
import Derived.Test.YtenoecffjfcifaaDoorPv2
import Derived.KernelRfl
import Derived.ChangeShapes
import Derived.OpenShut
import Derived.SizedLaws
import Derived.Deep.Slices
-- Seventeenth text: whole regions at once; a walk through code.
namespace Go.Proofs.YtenoecffjfcifaaDoor.Pv
set_option linter.all false
open Go.RowKit
set_option linter.unusedVariables false
theorem popSem_mono {P : Program} {σ : PS} {o : Oper} {K K' : PV → List Blk → Prop} (h : PopSem P σ o K) (hk : ∀ x S', K x S' → K' x S') : PopSem P σ o K' :=
  fun c a r next Q hn => h c a r next Q fun x c' v hK => hn x c' v (hk _ _ hK)
theorem pops_mono {P : Program} {ops : List Oper} {Q Q' : PS → Prop} (hq : ∀ σ, Q σ → Q' σ) : ∀ (l : List Oper) (σ : PS), Pops P ops Q l σ → Pops P ops Q' l σ
  | [], σ, h => hq σ h
  | o :: rest, σ, h => by
    unfold Pops at h ⊢
    cases hg : o.guard with
    | none =>
      rw [hg] at h
      exact popSem_mono h fun x S' hK => pops_mono hq rest _ hK
    | some p =>
      obtain ⟨j, w⟩ := p
      rw [hg] at h
      obtain ⟨b, h1, h2, h3⟩ := h
      exact ⟨b, h1, fun e => popSem_mono (h2 e) fun x S' hK => pops_mono hq rest _ hK, fun e => pops_mono hq rest _ (h3 e)⟩
theorem pstl_mono {P : Program} {ops : List Oper} {Q Q' : PS → Prop} (hq : ∀ σ, Q σ → Q' σ) : ∀ (l : List Oper) (σ : PS), PStL P ops Q l σ → PStL P ops Q' l σ
  | [], σ, h => hq σ h
  | o :: rest, σ, ⟨x, h1, h2⟩ => ⟨x, h1, pstl_mono hq rest _ h2⟩
section
variable {P : Program} {ops : List Oper} {Q : PS → Prop} {σ : PS} {rest : List Oper}

/-- As many operations as only read are done. -/
theorem pops_go (σ' : PS) (n' : Nat) (k : Pops P ops Q (lastN rest n') σ') (hd : rest.all (gOk ops) = true := by kernel_rfl) (he : EvR P (prs ops rest) σ σ' n' := by repeat (first | (refine is_c ?_; first | (refine is_u ?_; first | (refine is_mv ?_; refine es_mv ?_) | (refine is_as ?_; refine es_as ?_) | (refine is_bin ?_; first | (refine is_b_lss ?_; first | refine es_lt_t ?_ | refine es_lt_f ?_ | refine es_lt ?_) | (refine is_b_leq ?_; first | refine es_le_t ?_ | refine es_le_f ?_ | refine es_le ?_) | (refine is_b_gtr ?_; first | refine es_gt_t ?_ | refine es_gt_f ?_ | refine es_gt ?_) | (refine is_b_geq ?_; first | refine es_ge_t ?_ | refine es_ge_f ?_ | refine es_ge ?_) | (refine is_b_eql ?_; first | refine es_eq_t ?_ | refine es_eq_f ?_ | refine es_eq ?_ | refine es_seq_t ?_ | refine es_seq_f ?_ | refine es_seq ?_ | refine es_aeq_t ?_ | refine es_aeq ?_ | refine es_beq ?_ | refine es_eqn_ro ?_ | refine es_eqn_nil ?_ | refine es_eqp_ptr ?_ | refine es_eqp_nil ?_) | (refine is_b_neq ?_; first | refine es_ne_t ?_ | refine es_ne_f ?_ | refine es_ne ?_ | refine es_sne_t ?_ | refine es_sne_f ?_ | refine es_sne ?_ | refine es_ane_f ?_ | refine es_ane ?_ | refine es_bne ?_ | refine es_nen_ro ?_ | refine es_nen_nil ?_ | refine es_nep_ptr ?_ | refine es_nep_nil ?_) | (refine is_b_add ?_; first | refine es_add ?_ | refine es_sadd ?_) | (refine is_b_sub ?_; refine es_sub ?_) | (refine is_b_mul ?_; refine es_mul ?_) | (refine is_b_quo ?_; refine es_quo ?_) | (refine is_b_rem ?_; refine es_rem ?_) | (refine is_b_and ?_; first | refine es_andh ?_ | refine es_and ?_) | (refine is_b_or ?_; first | refine es_orh ?_ | refine es_or ?_) | (refine is_b_xor ?_; first | refine es_xorh ?_ | refine es_xor ?_) | (refine is_b_andNot ?_; first | refine es_andnh ?_ | refine es_andn ?_) | (refine is_b_shl ?_; refine es_shl ?_) | (refine is_b_shr ?_; refine es_shr ?_)) | (refine is_ld ?_; first | refine es_ld_rp ?_ | refine es_lda_rp ?_ | refine es_ld_ptr ?_ | refine es_lda_ptr ?_ | refine es_ld_ca ?_ | refine es_ld_ct ?_ | refine es_lda_row ?_) | (refine is_ixa ?_; first | refine es_ix_ro ?_ | refine es_ix_vw ?_ | refine es_ix_arr ?_ | refine es_ix_sub ?_) | (refine is_ix ?_; first | refine es_six ?_ | refine es_aixc ?_ | refine es_aix ?_) | (refine is_fa ?_; first | refine es_fa_ptr ?_ | refine es_fa_rp ?_) | (refine is_ext ?_; refine es_ext ?_) | (refine is_lk ?_; first | refine es_lk_r ?_ | refine es_lk_m ?_ | refine es_lo_r ?_ | refine es_lo_m ?_) | (refine is_pick ?_; first | refine es_pick_t ?_ | refine es_pick_f ?_ | refine es_pick ?_) | (refine is_call ?_; first | refine es_slen ?_ | refine es_len_ro ?_ | refine es_len_vw ?_ | refine es_len_nil ?_ | refine es_len_sub ?_ | refine es_len_str ?_ | refine es_min ?_ | refine es_max ?_ | refine es_len_m ?_) | (refine is_conv ?_; refine es_conv ?_) | (refine is_un ?_; first | refine es_not_t ?_ | refine es_not_f ?_ | refine es_not ?_ | refine es_neg ?_) | (refine is_fv ?_; first | refine es_fv ?_ | refine es_fva ?_) | (refine is_nil ?_; first | refine es_nil_ptr ?_ | refine es_nil_fn ?_) | (refine is_bld ?_; refine es_bld ?_) | (refine is_mf ?_; refine es_mf ?_) | (refine is_sl ?_; first | refine es_sl_arr ?_ | refine es_sl_h ?_ | refine es_sl_l ?_ | refine es_sl_b ?_ | refine es_ssl_h ?_ | refine es_ssl_l ?_ | refine es_ssl_b ?_ | refine es_vsl_h ?_ | refine es_vsl_l ?_ | refine es_vsl_b ?_ | refine es_vsl_3 ?_ | refine es_sl_3 ?_ | refine es_rsl_h ?_ | refine es_rsl_l ?_ | refine es_rsl_b ?_)) | (refine es_guard ?_; first | (refine is_mv ?_; refine es_mv ?_) | (refine is_as ?_; refine es_as ?_) | (refine is_bin ?_; first | (refine is_b_lss ?_; first | refine es_lt_t ?_ | refine es_lt_f ?_ | refine es_lt ?_) | (refine is_b_leq ?_; first | refine es_le_t ?_ | refine es_le_f ?_ | refine es_le ?_) | (refine is_b_gtr ?_; first | refine es_gt_t ?_ | refine es_gt_f ?_ | refine es_gt ?_) | (refine is_b_geq ?_; first | refine es_ge_t ?_ | refine es_ge_f ?_ | refine es_ge ?_) | (refine is_b_eql ?_; first | refine es_eq_t ?_ | refine es_eq_f ?_ | refine es_eq ?_ | refine es_seq_t ?_ | refine es_seq_f ?_ | refine es_seq ?_ | refine es_aeq_t ?_ | refine es_aeq ?_ | refine es_beq ?_ | refine es_eqn_ro ?_ | refine es_eqn_nil ?_ | refine es_eqp_ptr ?_ | refine es_eqp_nil ?_) | (refine is_b_neq ?_; first | refine es_ne_t ?_ | refine es_ne_f ?_ | refine es_ne ?_ | refine es_sne_t ?_ | refine es_sne_f ?_ | refine es_sne ?_ | refine es_ane_f ?_ | refine es_ane ?_ | refine es_bne ?_ | refine es_nen_ro ?_ | refine es_nen_nil ?_ | refine es_nep_ptr ?_ | refine es_nep_nil ?_) | (refine is_b_add ?_; first | refine es_add ?_ | refine es_sadd ?_) | (refine is_b_sub ?_; refine es_sub ?_) | (refine is_b_mul ?_; refine es_mul ?_) | (refine is_b_quo ?_; refine es_quo ?_) | (refine is_b_rem ?_; refine es_rem ?_) | (refine is_b_and ?_; first | refine es_andh ?_ | refine es_and ?_) | (refine is_b_or ?_; first | refine es_orh ?_ | refine es_or ?_) | (refine is_b_xor ?_; first | refine es_xorh ?_ | refine es_xor ?_) | (refine is_b_andNot ?_; first | refine es_andnh ?_ | refine es_andn ?_) | (refine is_b_shl ?_; refine es_shl ?_) | (refine is_b_shr ?_; refine es_shr ?_)) | (refine is_ld ?_; first | refine es_ld_rp ?_ | refine es_lda_rp ?_ | refine es_ld_ptr ?_ | refine es_lda_ptr ?_ | refine es_ld_ca ?_ | refine es_ld_ct ?_ | refine es_lda_row ?_) | (refine is_ixa ?_; first | refine es_ix_ro ?_ | refine es_ix_vw ?_ | refine es_ix_arr ?_ | refine es_ix_sub ?_) | (refine is_ix ?_; first | refine es_six ?_ | refine es_aixc ?_ | refine es_aix ?_) | (refine is_fa ?_; first | refine es_fa_ptr ?_ | refine es_fa_rp ?_) | (refine is_ext ?_; refine es_ext ?_) | (refine is_lk ?_; first | refine es_lk_r ?_ | refine es_lk_m ?_ | refine es_lo_r ?_ | refine es_lo_m ?_) | (refine is_pick ?_; first | refine es_pick_t ?_ | refine es_pick_f ?_ | refine es_pick ?_) | (refine is_call ?_; first | refine es_slen ?_ | refine es_len_ro ?_ | refine es_len_vw ?_ | refine es_len_nil ?_ | refine es_len_sub ?_ | refine es_len_str ?_ | refine es_min ?_ | refine es_max ?_ | refine es_len_m ?_) | (refine is_conv ?_; refine es_conv ?_) | (refine is_un ?_; first | refine es_not_t ?_ | refine es_not_f ?_ | refine es_not ?_ | refine es_neg ?_) | (refine is_fv ?_; first | refine es_fv ?_ | refine es_fva ?_) | (refine is_nil ?_; first | refine es_nil_ptr ?_ | refine es_nil_fn ?_) | (refine is_bld ?_; refine es_bld ?_) | (refine is_mf ?_; refine es_mf ?_) | (refine is_sl ?_; first | refine es_sl_arr ?_ | refine es_sl_h ?_ | refine es_sl_l ?_ | refine es_sl_b ?_ | refine es_ssl_h ?_ | refine es_ssl_l ?_ | refine es_ssl_b ?_ | refine es_vsl_h ?_ | refine es_vsl_l ?_ | refine es_vsl_b ?_ | refine es_vsl_3 ?_ | refine es_sl_3 ?_ | refine es_rsl_h ?_ | refine es_rsl_l ?_ | refine es_rsl_b ?_)) | refine es_skip ?_) | exact EvR.stop _ _)) : Pops P ops Q rest σ :=
  pops_evr rest σ σ' n' (List.all_eq_true.1 hd) he k
theorem pops_end (h : Q σ) : Pops P ops Q (lastN rest 0) σ := by rw [lastN_zero]; exact h
theorem pstl_go (σ' : PS) (n' : Nat) (k : PStL P ops Q (lastN rest n') σ') (hd : rest.all (gOk ops) = true := by kernel_rfl) (he : EvR P (prs ops rest) σ σ' n' := by repeat (first | (refine is_c ?_; first | (refine is_u ?_; first | (refine is_mv ?_; refine es_mv ?_) | (refine is_as ?_; refine es_as ?_) | (refine is_bin ?_; first | (refine is_b_lss ?_; first | refine es_lt_t ?_ | refine es_lt_f ?_ | refine es_lt ?_) | (refine is_b_leq ?_; first | refine es_le_t ?_ | refine es_le_f ?_ | refine es_le ?_) | (refine is_b_gtr ?_; first | refine es_gt_t ?_ | refine es_gt_f ?_ | refine es_gt ?_) | (refine is_b_geq ?_; first | refine es_ge_t ?_ | refine es_ge_f ?_ | refine es_ge ?_) | (refine is_b_eql ?_; first | refine es_eq_t ?_ | refine es_eq_f ?_ | refine es_eq ?_ | refine es_seq_t ?_ | refine es_seq_f ?_ | refine es_seq ?_ | refine es_aeq_t ?_ | refine es_aeq ?_ | refine es_beq ?_ | refine es_eqn_ro ?_ | refine es_eqn_nil ?_ | refine es_eqp_ptr ?_ | refine es_eqp_nil ?_) | (refine is_b_neq ?_; first | refine es_ne_t ?_ | refine es_ne_f ?_ | refine es_ne ?_ | refine es_sne_t ?_ | refine es_sne_f ?_ | refine es_sne ?_ | refine es_ane_f ?_ | refine es_ane ?_ | refine es_bne ?_ | refine es_nen_ro ?_ | refine es_nen_nil ?_ | refine es_nep_ptr ?_ | refine es_nep_nil ?_) | (refine is_b_add ?_; first | refine es_add ?_ | refine es_sadd ?_) | (refine is_b_sub ?_; refine es_sub ?_) | (refine is_b_mul ?_; refine es_mul ?_) | (refine is_b_quo ?_; refine es_quo ?_) | (refine is_b_rem ?_; refine es_rem ?_) | (refine is_b_and ?_; first | refine es_andh ?_ | refine es_and ?_) | (refine is_b_or ?_; first | refine es_orh ?_ | refine es_or ?_) | (refine is_b_xor ?_; first | refine es_xorh ?_ | refine es_xor ?_) | (refine is_b_andNot ?_; first | refine es_andnh ?_ | refine es_andn ?_) | (refine is_b_shl ?_; refine es_shl ?_) | (refine is_b_shr ?_; refine es_shr ?_)) | (refine is_ld ?_; first | refine es_ld_rp ?_ | refine es_lda_rp ?_ | refine es_ld_ptr ?_ | refine es_lda_ptr ?_ | refine es_ld_ca ?_ | refine es_ld_ct ?_ | refine es_lda_row ?_) | (refine is_ixa ?_; first | refine es_ix_ro ?_ | refine es_ix_vw ?_ | refine es_ix_arr ?_ | refine es_ix_sub ?_) | (refine is_ix ?_; first | refine es_six ?_ | refine es_aixc ?_ | refine es_aix ?_) | (refine is_fa ?_; first | refine es_fa_ptr ?_ | refine es_fa_rp ?_) | (refine is_ext ?_; refine es_ext ?_) | (refine is_lk ?_; first | refine es_lk_r ?_ | refine es_lk_m ?_ | refine es_lo_r ?_ | refine es_lo_m ?_) | (refine is_pick ?_; first | refine es_pick_t ?_ | refine es_pick_f ?_ | refine es_pick ?_) | (refine is_call ?_; first | refine es_slen ?_ | refine es_len_ro ?_ | refine es_len_vw ?_ | refine es_len_nil ?_ | refine es_len_sub ?_ | refine es_len_str ?_ | refine es_min ?_ | refine es_max ?_ | refine es_len_m ?_) | (refine is_conv ?_; refine es_conv ?_) | (refine is_un ?_; first | refine es_not_t ?_ | refine es_not_f ?_ | refine es_not ?_ | refine es_neg ?_) | (refine is_fv ?_; first | refine es_fv ?_ | refine es_fva ?_) | (refine is_nil ?_; first | refine es_nil_ptr ?_ | refine es_nil_fn ?_) | (refine is_bld ?_; refine es_bld ?_) | (refine is_mf ?_; refine es_mf ?_) | (refine is_sl ?_; first | refine es_sl_arr ?_ | refine es_sl_h ?_ | refine es_sl_l ?_ | refine es_sl_b ?_ | refine es_ssl_h ?_ | refine es_ssl_l ?_ | refine es_ssl_b ?_ | refine es_vsl_h ?_ | refine es_vsl_l ?_ | refine es_vsl_b ?_ | refine es_vsl_3 ?_ | refine es_sl_3 ?_ | refine es_rsl_h ?_ | refine es_rsl_l ?_ | refine es_rsl_b ?_)) | (refine es_guard ?_; first | (refine is_mv ?_; refine es_mv ?_) | (refine is_as ?_; refine es_as ?_) | (refine is_bin ?_; first | (refine is_b_lss ?_; first | refine es_lt_t ?_ | refine es_lt_f ?_ | refine es_lt ?_) | (refine is_b_leq ?_; first | refine es_le_t ?_ | refine es_le_f ?_ | refine es_le ?_) | (refine is_b_gtr ?_; first | refine es_gt_t ?_ | refine es_gt_f ?_ | refine es_gt ?_) | (refine is_b_geq ?_; first | refine es_ge_t ?_ | refine es_ge_f ?_ | refine es_ge ?_) | (refine is_b_eql ?_; first | refine es_eq_t ?_ | refine es_eq_f ?_ | refine es_eq ?_ | refine es_seq_t ?_ | refine es_seq_f ?_ | refine es_seq ?_ | refine es_aeq_t ?_ | refine es_aeq ?_ | refine es_beq ?_ | refine es_eqn_ro ?_ | refine es_eqn_nil ?_ | refine es_eqp_ptr ?_ | refine es_eqp_nil ?_) | (refine is_b_neq ?_; first | refine es_ne_t ?_ | refine es_ne_f ?_ | refine es_ne ?_ | refine es_sne_t ?_ | refine es_sne_f ?_ | refine es_sne ?_ | refine es_ane_f ?_ | refine es_ane ?_ | refine es_bne ?_ | refine es_nen_ro ?_ | refine es_nen_nil ?_ | refine es_nep_ptr ?_ | refine es_nep_nil ?_) | (refine is_b_add ?_; first | refine es_add ?_ | refine es_sadd ?_) | (refine is_b_sub ?_; refine es_sub ?_) | (refine is_b_mul ?_; refine es_mul ?_) | (refine is_b_quo ?_; refine es_quo ?_) | (refine is_b_rem ?_; refine es_rem ?_) | (refine is_b_and ?_; first | refine es_andh ?_ | refine es_and ?_) | (refine is_b_or ?_; first | refine es_orh ?_ | refine es_or ?_) | (refine is_b_xor ?_; first | refine es_xorh ?_ | refine es_xor ?_) | (refine is_b_andNot ?_; first | refine es_andnh ?_ | refine es_andn ?_) | (refine is_b_shl ?_; refine es_shl ?_) | (refine is_b_shr ?_; refine es_shr ?_)) | (refine is_ld ?_; first | refine es_ld_rp ?_ | refine es_lda_rp ?_ | refine es_ld_ptr ?_ | refine es_lda_ptr ?_ | refine es_ld_ca ?_ | refine es_ld_ct ?_ | refine es_lda_row ?_) | (refine is_ixa ?_; first | refine es_ix_ro ?_ | refine es_ix_vw ?_ | refine es_ix_arr ?_ | refine es_ix_sub ?_) | (refine is_ix ?_; first | refine es_six ?_ | refine es_aixc ?_ | refine es_aix ?_) | (refine is_fa ?_; first | refine es_fa_ptr ?_ | refine es_fa_rp ?_) | (refine is_ext ?_; refine es_ext ?_) | (refine is_lk ?_; first | refine es_lk_r ?_ | refine es_lk_m ?_ | refine es_lo_r ?_ | refine es_lo_m ?_) | (refine is_pick ?_; first | refine es_pick_t ?_ | refine es_pick_f ?_ | refine es_pick ?_) | (refine is_call ?_; first | refine es_slen ?_ | refine es_len_ro ?_ | refine es_len_vw ?_ | refine es_len_nil ?_ | refine es_len_sub ?_ | refine es_len_str ?_ | refine es_min ?_ | refine es_max ?_ | refine es_len_m ?_) | (refine is_conv ?_; refine es_conv ?_) | (refine is_un ?_; first | refine es_not_t ?_ | refine es_not_f ?_ | refine es_not ?_ | refine es_neg ?_) | (refine is_fv ?_; first | refine es_fv ?_ | refine es_fva ?_) | (refine is_nil ?_; first | refine es_nil_ptr ?_ | refine es_nil_fn ?_) | (refine is_bld ?_; refine es_bld ?_) | (refine is_mf ?_; refine es_mf ?_) | (refine is_sl ?_; first | refine es_sl_arr ?_ | refine es_sl_h ?_ | refine es_sl_l ?_ | refine es_sl_b ?_ | refine es_ssl_h ?_ | refine es_ssl_l ?_ | refine es_ssl_b ?_ | refine es_vsl_h ?_ | refine es_vsl_l ?_ | refine es_vsl_b ?_ | refine es_vsl_3 ?_ | refine es_sl_3 ?_ | refine es_rsl_h ?_ | refine es_rsl_l ?_ | refine es_rsl_b ?_)) | refine es_skip ?_) | exact EvR.stop _ _)) : PStL P ops Q rest σ :=
  pstl_evr rest σ σ' n' (List.all_eq_true.1 hd) he k
theorem pstl_end (h : Q σ) : PStL P ops Q (lastN rest 0) σ := by rw [lastN_zero]; exact h
end

class Mixed (P : Program) : Prop where
  h : P.follows .mixedOrders = true
/-- Code of which a region comes first. -/
theorem sr {P : Program} {id : Nat} {ops : Array Oper} {y : Code} {σ : PS} {Q : Exit → PS → Prop} (σ' : PS) (n' : Nat) (k : Pops P ops.toList (fun σ' => Tr P y σ' Q) (lastN ops.toList n') σ') (hd : ops.toList.all (fun o => dstOk σ.n o && gOk ops.toList o) = true := by kernel_rfl)
    (he : EvR P (prs ops.toList ops.toList) σ σ' n' := by repeat (first | (refine is_c ?_; first | (refine is_u ?_; first | (refine is_mv ?_; refine es_mv ?_) | (refine is_as ?_; refine es_as ?_) | (refine is_bin ?_; first | (refine is_b_lss ?_; first | refine es_lt_t ?_ | refine es_lt_f ?_ | refine es_lt ?_) | (refine is_b_leq ?_; first | refine es_le_t ?_ | refine es_le_f ?_ | refine es_le ?_) | (refine is_b_gtr ?_; first | refine es_gt_t ?_ | refine es_gt_f ?_ | refine es_gt ?_) | (refine is_b_geq ?_; first | refine es_ge_t ?_ | refine es_ge_f ?_ | refine es_ge ?_) | (refine is_b_eql ?_; first | refine es_eq_t ?_ | refine es_eq_f ?_ | refine es_eq ?_ | refine es_seq_t ?_ | refine es_seq_f ?_ | refine es_seq ?_ | refine es_aeq_t ?_ | refine es_aeq ?_ | refine es_beq ?_ | refine es_eqn_ro ?_ | refine es_eqn_nil ?_ | refine es_eqp_ptr ?_ | refine es_eqp_nil ?_) | (refine is_b_neq ?_; first | refine es_ne_t ?_ | refine es_ne_f ?_ | refine es_ne ?_ | refine es_sne_t ?_ | refine es_sne_f ?_ | refine es_sne ?_ | refine es_ane_f ?_ | refine es_ane ?_ | refine es_bne ?_ | refine es_nen_ro ?_ | refine es_nen_nil ?_ | refine es_nep_ptr ?_ | refine es_nep_nil ?_) | (refine is_b_add ?_; first | refine es_add ?_ | refine es_sadd ?_) | (refine is_b_sub ?_; refine es_sub ?_) | (refine is_b_mul ?_; refine es_mul ?_) | (refine is_b_quo ?_; refine es_quo ?_) | (refine is_b_rem ?_; refine es_rem ?_) | (refine is_b_and ?_; first | refine es_andh ?_ | refine es_and ?_) | (refine is_b_or ?_; first | refine es_orh ?_ | refine es_or ?_) | (refine is_b_xor ?_; first | refine es_xorh ?_ | refine es_xor ?_) | (refine is_b_andNot ?_; first | refine es_andnh ?_ | refine es_andn ?_) | (refine is_b_shl ?_; refine es_shl ?_) | (refine is_b_shr ?_; refine es_shr ?_)) | (refine is_ld ?_; first | refine es_ld_rp ?_ | refine es_lda_rp ?_ | refine es_ld_ptr ?_ | refine es_lda_ptr ?_ | refine es_ld_ca ?_ | refine es_ld_ct ?_ | refine es_lda_row ?_) | (refine is_ixa ?_; first | refine es_ix_ro ?_ | refine es_ix_vw ?_ | refine es_ix_arr ?_ | refine es_ix_sub ?_) | (refine is_ix ?_; first | refine es_six ?_ | refine es_aixc ?_ | refine es_aix ?_) | (refine is_fa ?_; first | refine es_fa_ptr ?_ | refine es_fa_rp ?_) | (refine is_ext ?_; refine es_ext ?_) | (refine is_lk ?_; first | refine es_lk_r ?_ | refine es_lk_m ?_ | refine es_lo_r ?_ | refine es_lo_m ?_) | (refine is_pick ?_; first | refine es_pick_t ?_ | refine es_pick_f ?_ | refine es_pick ?_) | (refine is_call ?_; first | refine es_slen ?_ | refine es_len_ro ?_ | refine es_len_vw ?_ | refine es_len_nil ?_ | refine es_len_sub ?_ | refine es_len_str ?_ | refine es_min ?_ | refine es_max ?_ | refine es_len_m ?_) | (refine is_conv ?_; refine es_conv ?_) | (refine is_un ?_; first | refine es_not_t ?_ | refine es_not_f ?_ | refine es_not ?_ | refine es_neg ?_) | (refine is_fv ?_; first | refine es_fv ?_ | refine es_fva ?_) | (refine is_nil ?_; first | refine es_nil_ptr ?_ | refine es_nil_fn ?_) | (refine is_bld ?_; refine es_bld ?_) | (refine is_mf ?_; refine es_mf ?_) | (refine is_sl ?_; first | refine es_sl_arr ?_ | refine es_sl_h ?_ | refine es_sl_l ?_ | refine es_sl_b ?_ | refine es_ssl_h ?_ | refine es_ssl_l ?_ | refine es_ssl_b ?_ | refine es_vsl_h ?_ | refine es_vsl_l ?_ | refine es_vsl_b ?_ | refine es_vsl_3 ?_ | refine es_sl_3 ?_ | refine es_rsl_h ?_ | refine es_rsl_l ?_ | refine es_rsl_b ?_)) | (refine es_guard ?_; first | (refine is_mv ?_; refine es_mv ?_) | (refine is_as ?_; refine es_as ?_) | (refine is_bin ?_; first | (refine is_b_lss ?_; first | refine es_lt_t ?_ | refine es_lt_f ?_ | refine es_lt ?_) | (refine is_b_leq ?_; first | refine es_le_t ?_ | refine es_le_f ?_ | refine es_le ?_) | (refine is_b_gtr ?_; first | refine es_gt_t ?_ | refine es_gt_f ?_ | refine es_gt ?_) | (refine is_b_geq ?_; first | refine es_ge_t ?_ | refine es_ge_f ?_ | refine es_ge ?_) | (refine is_b_eql ?_; first | refine es_eq_t ?_ | refine es_eq_f ?_ | refine es_eq ?_ | refine es_seq_t ?_ | refine es_seq_f ?_ | refine es_seq ?_ | refine es_aeq_t ?_ | refine es_aeq ?_ | refine es_beq ?_ | refine es_eqn_ro ?_ | refine es_eqn_nil ?_ | refine es_eqp_ptr ?_ | refine es_eqp_nil ?_) | (refine is_b_neq ?_; first | refine es_ne_t ?_ | refine es_ne_f ?_ | refine es_ne ?_ | refine es_sne_t ?_ | refine es_sne_f ?_ | refine es_sne ?_ | refine es_ane_f ?_ | refine es_ane ?_ | refine es_bne ?_ | refine es_nen_ro ?_ | refine es_nen_nil ?_ | refine es_nep_ptr ?_ | refine es_nep_nil ?_) | (refine is_b_add ?_; first | refine es_add ?_ | refine es_sadd ?_) | (refine is_b_sub ?_; refine es_sub ?_) | (refine is_b_mul ?_; refine es_mul ?_) | (refine is_b_quo ?_; refine es_quo ?_) | (refine is_b_rem ?_; refine es_rem ?_) | (refine is_b_and ?_; first | refine es_andh ?_ | refine es_and ?_) | (refine is_b_or ?_; first | refine es_orh ?_ | refine es_or ?_) | (refine is_b_xor ?_; first | refine es_xorh ?_ | refine es_xor ?_) | (refine is_b_andNot ?_; first | refine es_andnh ?_ | refine es_andn ?_) | (refine is_b_shl ?_; refine es_shl ?_) | (refine is_b_shr ?_; refine es_shr ?_)) | (refine is_ld ?_; first | refine es_ld_rp ?_ | refine es_lda_rp ?_ | refine es_ld_ptr ?_ | refine es_lda_ptr ?_ | refine es_ld_ca ?_ | refine es_ld_ct ?_ | refine es_lda_row ?_) | (refine is_ixa ?_; first | refine es_ix_ro ?_ | refine es_ix_vw ?_ | refine es_ix_arr ?_ | refine es_ix_sub ?_) | (refine is_ix ?_; first | refine es_six ?_ | refine es_aixc ?_ | refine es_aix ?_) | (refine is_fa ?_; first | refine es_fa_ptr ?_ | refine es_fa_rp ?_) | (refine is_ext ?_; refine es_ext ?_) | (refine is_lk ?_; first | refine es_lk_r ?_ | refine es_lk_m ?_ | refine es_lo_r ?_ | refine es_lo_m ?_) | (refine is_pick ?_; first | refine es_pick_t ?_ | refine es_pick_f ?_ | refine es_pick ?_) | (refine is_call ?_; first | refine es_slen ?_ | refine es_len_ro ?_ | refine es_len_vw ?_ | refine es_len_nil ?_ | refine es_len_sub ?_ | refine es_len_str ?_ | refine es_min ?_ | refine es_max ?_ | refine es_len_m ?_) | (refine is_conv ?_; refine es_conv ?_) | (refine is_un ?_; first | refine es_not_t ?_ | refine es_not_f ?_ | refine es_not ?_ | refine es_neg ?_) | (refine is_fv ?_; first | refine es_fv ?_ | refine es_fva ?_) | (refine is_nil ?_; first | refine es_nil_ptr ?_ | refine es_nil_fn ?_) | (refine is_bld ?_; refine es_bld ?_) | (refine is_mf ?_; refine es_mf ?_) | (refine is_sl ?_; first | refine es_sl_arr ?_ | refine es_sl_h ?_ | refine es_sl_l ?_ | refine es_sl_b ?_ | refine es_ssl_h ?_ | refine es_ssl_l ?_ | refine es_ssl_b ?_ | refine es_vsl_h ?_ | refine es_vsl_l ?_ | refine es_vsl_b ?_ | refine es_vsl_3 ?_ | refine es_sl_3 ?_ | refine es_rsl_h ?_ | refine es_rsl_l ?_ | refine es_rsl_b ?_)) | refine es_skip ?_) | exact EvR.stop _ _)) : Tr P (.seq (.region id ops false) y) σ Q := by
  have hd' := List.all_eq_true.1 hd
  refine tr_seq fun K hK => ?_
  refine tr_region (List.all_eq_true.2 fun o ho => (Bool.and_eq_true_iff.1 (hd' o ho)).1) ?_
  exact pops_mono (fun σ h => hK σ h) _ _ (pops_evr ops.toList σ σ' n' (fun o ho => (Bool.and_eq_true_iff.1 (hd' o ho)).2) he k)
/-- The same, where the region is all. -/
theorem srl {P : Program} {id : Nat} {ops : Array Oper} {σ : PS} {Q : Exit → PS → Prop} (σ' : PS) (n' : Nat) (k : Pops P ops.toList (Q .normal) (lastN ops.toList n') σ') (hd : ops.toList.all (fun o => dstOk σ.n o && gOk ops.toList o) = true := by kernel_rfl)
    (he : EvR P (prs ops.toList ops.toList) σ σ' n' := by repeat (first | (refine is_c ?_; first | (refine is_u ?_; first | (refine is_mv ?_; refine es_mv ?_) | (refine is_as ?_; refine es_as ?_) | (refine is_bin ?_; first | (refine is_b_lss ?_; first | refine es_lt_t ?_ | refine es_lt_f ?_ | refine es_lt ?_) | (refine is_b_leq ?_; first | refine es_le_t ?_ | refine es_le_f ?_ | refine es_le ?_) | (refine is_b_gtr ?_; first | refine es_gt_t ?_ | refine es_gt_f ?_ | refine es_gt ?_) | (refine is_b_geq ?_; first | refine es_ge_t ?_ | refine es_ge_f ?_ | refine es_ge ?_) | (refine is_b_eql ?_; first | refine es_eq_t ?_ | refine es_eq_f ?_ | refine es_eq ?_ | refine es_seq_t ?_ | refine es_seq_f ?_ | refine es_seq ?_ | refine es_aeq_t ?_ | refine es_aeq ?_ | refine es_beq ?_ | refine es_eqn_ro ?_ | refine es_eqn_nil ?_ | refine es_eqp_ptr ?_ | refine es_eqp_nil ?_) | (refine is_b_neq ?_; first | refine es_ne_t ?_ | refine es_ne_f ?_ | refine es_ne ?_ | refine es_sne_t ?_ | refine es_sne_f ?_ | refine es_sne ?_ | refine es_ane_f ?_ | refine es_ane ?_ | refine es_bne ?_ | refine es_nen_ro ?_ | refine es_nen_nil ?_ | refine es_nep_ptr ?_ | refine es_nep_nil ?_) | (refine is_b_add ?_; first | refine es_add ?_ | refine es_sadd ?_) | (refine is_b_sub ?_; refine es_sub ?_) | (refine is_b_mul ?_; refine es_mul ?_) | (refine is_b_quo ?_; refine es_quo ?_) | (refine is_b_rem ?_; refine es_rem ?_) | (refine is_b_and ?_; first | refine es_andh ?_ | refine es_and ?_) | (refine is_b_or ?_; first | refine es_orh ?_ | refine es_or ?_) | (refine is_b_xor ?_; first | refine es_xorh ?_ | refine es_xor ?_) | (refine is_b_andNot ?_; first | refine es_andnh ?_ | refine es_andn ?_) | (refine is_b_shl ?_; refine es_shl ?_) | (refine is_b_shr ?_; refine es_shr ?_)) | (refine is_ld ?_; first | refine es_ld_rp ?_ | refine es_lda_rp ?_ | refine es_ld_ptr ?_ | refine es_lda_ptr ?_ | refine es_ld_ca ?_ | refine es_ld_ct ?_ | refine es_lda_row ?_) | (refine is_ixa ?_; first | refine es_ix_ro ?_ | refine es_ix_vw ?_ | refine es_ix_arr ?_ | refine es_ix_sub ?_) | (refine is_ix ?_; first | refine es_six ?_ | refine es_aixc ?_ | refine es_aix ?_) | (refine is_fa ?_; first | refine es_fa_ptr ?_ | refine es_fa_rp ?_) | (refine is_ext ?_; refine es_ext ?_) | (refine is_lk ?_; first | refine es_lk_r ?_ | refine es_lk_m ?_ | refine es_lo_r ?_ | refine es_lo_m ?_) | (refine is_pick ?_; first | refine es_pick_t ?_ | refine es_pick_f ?_ | refine es_pick ?_) | (refine is_call ?_; first | refine es_slen ?_ | refine es_len_ro ?_ | refine es_len_vw ?_ | refine es_len_nil ?_ | refine es_len_sub ?_ | refine es_len_str ?_ | refine es_min ?_ | refine es_max ?_ | refine es_len_m ?_) | (refine is_conv ?_; refine es_conv ?_) | (refine is_un ?_; first | refine es_not_t ?_ | refine es_not_f ?_ | refine es_not ?_ | refine es_neg ?_) | (refine is_fv ?_; first | refine es_fv ?_ | refine es_fva ?_) | (refine is_nil ?_; first | refine es_nil_ptr ?_ | refine es_nil_fn ?_) | (refine is_bld ?_; refine es_bld ?_) | (refine is_mf ?_; refine es_mf ?_) | (refine is_sl ?_; first | refine es_sl_arr ?_ | refine es_sl_h ?_ | refine es_sl_l ?_ | refine es_sl_b ?_ | refine es_ssl_h ?_ | refine es_ssl_l ?_ | refine es_ssl_b ?_ | refine es_vsl_h ?_ | refine es_vsl_l ?_ | refine es_vsl_b ?_ | refine es_vsl_3 ?_ | refine es_sl_3 ?_ | refine es_rsl_h ?_ | refine es_rsl_l ?_ | refine es_rsl_b ?_)) | (refine es_guard ?_; first | (refine is_mv ?_; refine es_mv ?_) | (refine is_as ?_; refine es_as ?_) | (refine is_bin ?_; first | (refine is_b_lss ?_; first | refine es_lt_t ?_ | refine es_lt_f ?_ | refine es_lt ?_) | (refine is_b_leq ?_; first | refine es_le_t ?_ | refine es_le_f ?_ | refine es_le ?_) | (refine is_b_gtr ?_; first | refine es_gt_t ?_ | refine es_gt_f ?_ | refine es_gt ?_) | (refine is_b_geq ?_; first | refine es_ge_t ?_ | refine es_ge_f ?_ | refine es_ge ?_) | (refine is_b_eql ?_; first | refine es_eq_t ?_ | refine es_eq_f ?_ | refine es_eq ?_ | refine es_seq_t ?_ | refine es_seq_f ?_ | refine es_seq ?_ | refine es_aeq_t ?_ | refine es_aeq ?_ | refine es_beq ?_ | refine es_eqn_ro ?_ | refine es_eqn_nil ?_ | refine es_eqp_ptr ?_ | refine es_eqp_nil ?_) | (refine is_b_neq ?_; first | refine es_ne_t ?_ | refine es_ne_f ?_ | refine es_ne ?_ | refine es_sne_t ?_ | refine es_sne_f ?_ | refine es_sne ?_ | refine es_ane_f ?_ | refine es_ane ?_ | refine es_bne ?_ | refine es_nen_ro ?_ | refine es_nen_nil ?_ | refine es_nep_ptr ?_ | refine es_nep_nil ?_) | (refine is_b_add ?_; first | refine es_add ?_ | refine es_sadd ?_) | (refine is_b_sub ?_; refine es_sub ?_) | (refine is_b_mul ?_; refine es_mul ?_) | (refine is_b_quo ?_; refine es_quo ?_) | (refine is_b_rem ?_; refine es_rem ?_) | (refine is_b_and ?_; first | refine es_andh ?_ | refine es_and ?_) | (refine is_b_or ?_; first | refine es_orh ?_ | refine es_or ?_) | (refine is_b_xor ?_; first | refine es_xorh ?_ | refine es_xor ?_) | (refine is_b_andNot ?_; first | refine es_andnh ?_ | refine es_andn ?_) | (refine is_b_shl ?_; refine es_shl ?_) | (refine is_b_shr ?_; refine es_shr ?_)) | (refine is_ld ?_; first | refine es_ld_rp ?_ | refine es_lda_rp ?_ | refine es_ld_ptr ?_ | refine es_lda_ptr ?_ | refine es_ld_ca ?_ | refine es_ld_ct ?_ | refine es_lda_row ?_) | (refine is_ixa ?_; first | refine es_ix_ro ?_ | refine es_ix_vw ?_ | refine es_ix_arr ?_ | refine es_ix_sub ?_) | (refine is_ix ?_; first | refine es_six ?_ | refine es_aixc ?_ | refine es_aix ?_) | (refine is_fa ?_; first | refine es_fa_ptr ?_ | refine es_fa_rp ?_) | (refine is_ext ?_; refine es_ext ?_) | (refine is_lk ?_; first | refine es_lk_r ?_ | refine es_lk_m ?_ | refine es_lo_r ?_ | refine es_lo_m ?_) | (refine is_pick ?_; first | refine es_pick_t ?_ | refine es_pick_f ?_ | refine es_pick ?_) | (refine is_call ?_; first | refine es_slen ?_ | refine es_len_ro ?_ | refine es_len_vw ?_ | refine es_len_nil ?_ | refine es_len_sub ?_ | refine es_len_str ?_ | refine es_min ?_ | refine es_max ?_ | refine es_len_m ?_) | (refine is_conv ?_; refine es_conv ?_) | (refine is_un ?_; first | refine es_not_t ?_ | refine es_not_f ?_ | refine es_not ?_ | refine es_neg ?_) | (refine is_fv ?_; first | refine es_fv ?_ | refine es_fva ?_) | (refine is_nil ?_; first | refine es_nil_ptr ?_ | refine es_nil_fn ?_) | (refine is_bld ?_; refine es_bld ?_) | (refine is_mf ?_; refine es_mf ?_) | (refine is_sl ?_; first | refine es_sl_arr ?_ | refine es_sl_h ?_ | refine es_sl_l ?_ | refine es_sl_b ?_ | refine es_ssl_h ?_ | refine es_ssl_l ?_ | refine es_ssl_b ?_ | refine es_vsl_h ?_ | refine es_vsl_l ?_ | refine es_vsl_b ?_ | refine es_vsl_3 ?_ | refine es_sl_3 ?_ | refine es_rsl_h ?_ | refine es_rsl_l ?_ | refine es_rsl_b ?_)) | refine es_skip ?_) | exact EvR.stop _ _)) : Tr P (.region id ops false) σ Q := by
  have hd' := List.all_eq_true.1 hd
  refine tr_region (List.all_eq_true.2 fun o ho => (Bool.and_eq_true_iff.1 (hd' o ho)).1) ?_
  exact pops_evr ops.toList σ σ' n' (fun o ho => (Bool.and_eq_true_iff.1 (hd' o ho)).2) he k
/-- A region that draws its order comes first. -/
theorem sd {P : Program} {id : Nat} {ops : Array Oper} {y : Code} {σ : PS} {Q : Exit → PS → Prop} (σ' : PS) (n' : Nat) (k : PStL P ops.toList (fun σ' => Tr P y σ' Q) (lastN ops.toList n') σ') [hm : Mixed P] (hd : ops.toList.all (fun o => dstOk σ.n o && gOk ops.toList o) = true := by kernel_rfl) (hok : drawOk ops = true := by kernel_rfl)
    (he : EvR P (prs ops.toList ops.toList) σ σ' n' := by repeat (first | (refine is_c ?_; first | (refine is_u ?_; first | (refine is_mv ?_; refine es_mv ?_) | (refine is_as ?_; refine es_as ?_) | (refine is_bin ?_; first | (refine is_b_lss ?_; first | refine es_lt_t ?_ | refine es_lt_f ?_ | refine es_lt ?_) | (refine is_b_leq ?_; first | refine es_le_t ?_ | refine es_le_f ?_ | refine es_le ?_) | (refine is_b_gtr ?_; first | refine es_gt_t ?_ | refine es_gt_f ?_ | refine es_gt ?_) | (refine is_b_geq ?_; first | refine es_ge_t ?_ | refine es_ge_f ?_ | refine es_ge ?_) | (refine is_b_eql ?_; first | refine es_eq_t ?_ | refine es_eq_f ?_ | refine es_eq ?_ | refine es_seq_t ?_ | refine es_seq_f ?_ | refine es_seq ?_ | refine es_aeq_t ?_ | refine es_aeq ?_ | refine es_beq ?_ | refine es_eqn_ro ?_ | refine es_eqn_nil ?_ | refine es_eqp_ptr ?_ | refine es_eqp_nil ?_) | (refine is_b_neq ?_; first | refine es_ne_t ?_ | refine es_ne_f ?_ | refine es_ne ?_ | refine es_sne_t ?_ | refine es_sne_f ?_ | refine es_sne ?_ | refine es_ane_f ?_ | refine es_ane ?_ | refine es_bne ?_ | refine es_nen_ro ?_ | refine es_nen_nil ?_ | refine es_nep_ptr ?_ | refine es_nep_nil ?_) | (refine is_b_add ?_; first | refine es_add ?_ | refine es_sadd ?_) | (refine is_b_sub ?_; refine es_sub ?_) | (refine is_b_mul ?_; refine es_mul ?_) | (refine is_b_quo ?_; refine es_quo ?_) | (refine is_b_rem ?_; refine es_rem ?_) | (refine is_b_and ?_; first | refine es_andh ?_ | refine es_and ?_) | (refine is_b_or ?_; first | refine es_orh ?_ | refine es_or ?_) | (refine is_b_xor ?_; first | refine es_xorh ?_ | refine es_xor ?_) | (refine is_b_andNot ?_; first | refine es_andnh ?_ | refine es_andn ?_) | (refine is_b_shl ?_; refine es_shl ?_) | (refine is_b_shr ?_; refine es_shr ?_)) | (refine is_ld ?_; first | refine es_ld_rp ?_ | refine es_lda_rp ?_ | refine es_ld_ptr ?_ | refine es_lda_ptr ?_ | refine es_ld_ca ?_ | refine es_ld_ct ?_ | refine es_lda_row ?_) | (refine is_ixa ?_; first | refine es_ix_ro ?_ | refine es_ix_vw ?_ | refine es_ix_arr ?_ | refine es_ix_sub ?_) | (refine is_ix ?_; first | refine es_six ?_ | refine es_aixc ?_ | refine es_aix ?_) | (refine is_fa ?_; first | refine es_fa_ptr ?_ | refine es_fa_rp ?_) | (refine is_ext ?_; refine es_ext ?_) | (refine is_lk ?_; first | refine es_lk_r ?_ | refine es_lk_m ?_ | refine es_lo_r ?_ | refine es_lo_m ?_) | (refine is_pick ?_; first | refine es_pick_t ?_ | refine es_pick_f ?_ | refine es_pick ?_) | (refine is_call ?_; first | refine es_slen ?_ | refine es_len_ro ?_ | refine es_len_vw ?_ | refine es_len_nil ?_ | refine es_len_sub ?_ | refine es_len_str ?_ | refine es_min ?_ | refine es_max ?_ | refine es_len_m ?_) | (refine is_conv ?_; refine es_conv ?_) | (refine is_un ?_; first | refine es_not_t ?_ | refine es_not_f ?_ | refine es_not ?_ | refine es_neg ?_) | (refine is_fv ?_; first | refine es_fv ?_ | refine es_fva ?_) | (refine is_nil ?_; first | refine es_nil_ptr ?_ | refine es_nil_fn ?_) | (refine is_bld ?_; refine es_bld ?_) | (refine is_mf ?_; refine es_mf ?_) | (refine is_sl ?_; first | refine es_sl_arr ?_ | refine es_sl_h ?_ | refine es_sl_l ?_ | refine es_sl_b ?_ | refine es_ssl_h ?_ | refine es_ssl_l ?_ | refine es_ssl_b ?_ | refine es_vsl_h ?_ | refine es_vsl_l ?_ | refine es_vsl_b ?_ | refine es_vsl_3 ?_ | refine es_sl_3 ?_ | refine es_rsl_h ?_ | refine es_rsl_l ?_ | refine es_rsl_b ?_)) | (refine es_guard ?_; first | (refine is_mv ?_; refine es_mv ?_) | (refine is_as ?_; refine es_as ?_) | (refine is_bin ?_; first | (refine is_b_lss ?_; first | refine es_lt_t ?_ | refine es_lt_f ?_ | refine es_lt ?_) | (refine is_b_leq ?_; first | refine es_le_t ?_ | refine es_le_f ?_ | refine es_le ?_) | (refine is_b_gtr ?_; first | refine es_gt_t ?_ | refine es_gt_f ?_ | refine es_gt ?_) | (refine is_b_geq ?_; first | refine es_ge_t ?_ | refine es_ge_f ?_ | refine es_ge ?_) | (refine is_b_eql ?_; first | refine es_eq_t ?_ | refine es_eq_f ?_ | refine es_eq ?_ | refine es_seq_t ?_ | refine es_seq_f ?_ | refine es_seq ?_ | refine es_aeq_t ?_ | refine es_aeq ?_ | refine es_beq ?_ | refine es_eqn_ro ?_ | refine es_eqn_nil ?_ | refine es_eqp_ptr ?_ | refine es_eqp_nil ?_) | (refine is_b_neq ?_; first | refine es_ne_t ?_ | refine es_ne_f ?_ | refine es_ne ?_ | refine es_sne_t ?_ | refine es_sne_f ?_ | refine es_sne ?_ | refine es_ane_f ?_ | refine es_ane ?_ | refine es_bne ?_ | refine es_nen_ro ?_ | refine es_nen_nil ?_ | refine es_nep_ptr ?_ | refine es_nep_nil ?_) | (refine is_b_add ?_; first | refine es_add ?_ | refine es_sadd ?_) | (refine is_b_sub ?_; refine es_sub ?_) | (refine is_b_mul ?_; refine es_mul ?_) | (refine is_b_quo ?_; refine es_quo ?_) | (refine is_b_rem ?_; refine es_rem ?_) | (refine is_b_and ?_; first | refine es_andh ?_ | refine es_and ?_) | (refine is_b_or ?_; first | refine es_orh ?_ | refine es_or ?_) | (refine is_b_xor ?_; first | refine es_xorh ?_ | refine es_xor ?_) | (refine is_b_andNot ?_; first | refine es_andnh ?_ | refine es_andn ?_) | (refine is_b_shl ?_; refine es_shl ?_) | (refine is_b_shr ?_; refine es_shr ?_)) | (refine is_ld ?_; first | refine es_ld_rp ?_ | refine es_lda_rp ?_ | refine es_ld_ptr ?_ | refine es_lda_ptr ?_ | refine es_ld_ca ?_ | refine es_ld_ct ?_ | refine es_lda_row ?_) | (refine is_ixa ?_; first | refine es_ix_ro ?_ | refine es_ix_vw ?_ | refine es_ix_arr ?_ | refine es_ix_sub ?_) | (refine is_ix ?_; first | refine es_six ?_ | refine es_aixc ?_ | refine es_aix ?_) | (refine is_fa ?_; first | refine es_fa_ptr ?_ | refine es_fa_rp ?_) | (refine is_ext ?_; refine es_ext ?_) | (refine is_lk ?_; first | refine es_lk_r ?_ | refine es_lk_m ?_ | refine es_lo_r ?_ | refine es_lo_m ?_) | (refine is_pick ?_; first | refine es_pick_t ?_ | refine es_pick_f ?_ | refine es_pick ?_) | (refine is_call ?_; first | refine es_slen ?_ | refine es_len_ro ?_ | refine es_len_vw ?_ | refine es_len_nil ?_ | refine es_len_sub ?_ | refine es_len_str ?_ | refine es_min ?_ | refine es_max ?_ | refine es_len_m ?_) | (refine is_conv ?_; refine es_conv ?_) | (refine is_un ?_; first | refine es_not_t ?_ | refine es_not_f ?_ | refine es_not ?_ | refine es_neg ?_) | (refine is_fv ?_; first | refine es_fv ?_ | refine es_fva ?_) | (refine is_nil ?_; first | refine es_nil_ptr ?_ | refine es_nil_fn ?_) | (refine is_bld ?_; refine es_bld ?_) | (refine is_mf ?_; refine es_mf ?_) | (refine is_sl ?_; first | refine es_sl_arr ?_ | refine es_sl_h ?_ | refine es_sl_l ?_ | refine es_sl_b ?_ | refine es_ssl_h ?_ | refine es_ssl_l ?_ | refine es_ssl_b ?_ | refine es_vsl_h ?_ | refine es_vsl_l ?_ | refine es_vsl_b ?_ | refine es_vsl_3 ?_ | refine es_sl_3 ?_ | refine es_rsl_h ?_ | refine es_rsl_l ?_ | refine es_rsl_b ?_)) | refine es_skip ?_) | exact EvR.stop _ _)) : Tr P (.seq (.region id ops true) y) σ Q := by
  have hd' := List.all_eq_true.1 hd
  refine tr_seq fun K hK => ?_
  refine tr_drawn hm.h _ rfl hd hok ⟨σ', n', he, pstl_mono (fun σ h => hK σ h) _ _ k⟩
theorem sdl {P : Program} {id : Nat} {ops : Array Oper} {σ : PS} {Q : Exit → PS → Prop} (σ' : PS) (n' : Nat) (k : PStL P ops.toList (Q .normal) (lastN ops.toList n') σ') [hm : Mixed P] (hd : ops.toList.all (fun o => dstOk σ.n o && gOk ops.toList o) = true := by kernel_rfl) (hok : drawOk ops = true := by kernel_rfl)
    (he : EvR P (prs ops.toList ops.toList) σ σ' n' := by repeat (first | (refine is_c ?_; first | (refine is_u ?_; first | (refine is_mv ?_; refine es_mv ?_) | (refine is_as ?_; refine es_as ?_) | (refine is_bin ?_; first | (refine is_b_lss ?_; first | refine es_lt_t ?_ | refine es_lt_f ?_ | refine es_lt ?_) | (refine is_b_leq ?_; first | refine es_le_t ?_ | refine es_le_f ?_ | refine es_le ?_) | (refine is_b_gtr ?_; first | refine es_gt_t ?_ | refine es_gt_f ?_ | refine es_gt ?_) | (refine is_b_geq ?_; first | refine es_ge_t ?_ | refine es_ge_f ?_ | refine es_ge ?_) | (refine is_b_eql ?_; first | refine es_eq_t ?_ | refine es_eq_f ?_ | refine es_eq ?_ | refine es_seq_t ?_ | refine es_seq_f ?_ | refine es_seq ?_ | refine es_aeq_t ?_ | refine es_aeq ?_ | refine es_beq ?_ | refine es_eqn_ro ?_ | refine es_eqn_nil ?_ | refine es_eqp_ptr ?_ | refine es_eqp_nil ?_) | (refine is_b_neq ?_; first | refine es_ne_t ?_ | refine es_ne_f ?_ | refine es_ne ?_ | refine es_sne_t ?_ | refine es_sne_f ?_ | refine es_sne ?_ | refine es_ane_f ?_ | refine es_ane ?_ | refine es_bne ?_ | refine es_nen_ro ?_ | refine es_nen_nil ?_ | refine es_nep_ptr ?_ | refine es_nep_nil ?_) | (refine is_b_add ?_; first | refine es_add ?_ | refine es_sadd ?_) | (refine is_b_sub ?_; refine es_sub ?_) | (refine is_b_mul ?_; refine es_mul ?_) | (refine is_b_quo ?_; refine es_quo ?_) | (refine is_b_rem ?_; refine es_rem ?_) | (refine is_b_and ?_; first | refine es_andh ?_ | refine es_and ?_) | (refine is_b_or ?_; first | refine es_orh ?_ | refine es_or ?_) | (refine is_b_xor ?_; first | refine es_xorh ?_ | refine es_xor ?_) | (refine is_b_andNot ?_; first | refine es_andnh ?_ | refine es_andn ?_) | (refine is_b_shl ?_; refine es_shl ?_) | (refine is_b_shr ?_; refine es_shr ?_)) | (refine is_ld ?_; first | refine es_ld_rp ?_ | refine es_lda_rp ?_ | refine es_ld_ptr ?_ | refine es_lda_ptr ?_ | refine es_ld_ca ?_ | refine es_ld_ct ?_ | refine es_lda_row ?_) | (refine is_ixa ?_; first | refine es_ix_ro ?_ | refine es_ix_vw ?_ | refine es_ix_arr ?_ | refine es_ix_sub ?_) | (refine is_ix ?_; first | refine es_six ?_ | refine es_aixc ?_ | refine es_aix ?_) | (refine is_fa ?_; first | refine es_fa_ptr ?_ | refine es_fa_rp ?_) | (refine is_ext ?_; refine es_ext ?_) | (refine is_lk ?_; first | refine es_lk_r ?_ | refine es_lk_m ?_ | refine es_lo_r ?_ | refine es_lo_m ?_) | (refine is_pick ?_; first | refine es_pick_t ?_ | refine es_pick_f ?_ | refine es_pick ?_) | (refine is_call ?_; first | refine es_slen ?_ | refine es_len_ro ?_ | refine es_len_vw ?_ | refine es_len_nil ?_ | refine es_len_sub ?_ | refine es_len_str ?_ | refine es_min ?_ | refine es_max ?_ | refine es_len_m ?_) | (refine is_conv ?_; refine es_conv ?_) | (refine is_un ?_; first | refine es_not_t ?_ | refine es_not_f ?_ | refine es_not ?_ | refine es_neg ?_) | (refine is_fv ?_; first | refine es_fv ?_ | refine es_fva ?_) | (refine is_nil ?_; first | refine es_nil_ptr ?_ | refine es_nil_fn ?_) | (refine is_bld ?_; refine es_bld ?_) | (refine is_mf ?_; refine es_mf ?_) | (refine is_sl ?_; first | refine es_sl_arr ?_ | refine es_sl_h ?_ | refine es_sl_l ?_ | refine es_sl_b ?_ | refine es_ssl_h ?_ | refine es_ssl_l ?_ | refine es_ssl_b ?_ | refine es_vsl_h ?_ | refine es_vsl_l ?_ | refine es_vsl_b ?_ | refine es_vsl_3 ?_ | refine es_sl_3 ?_ | refine es_rsl_h ?_ | refine es_rsl_l ?_ | refine es_rsl_b ?_)) | (refine es_guard ?_; first | (refine is_mv ?_; refine es_mv ?_) | (refine is_as ?_; refine es_as ?_) | (refine is_bin ?_; first | (refine is_b_lss ?_; first | refine es_lt_t ?_ | refine es_lt_f ?_ | refine es_lt ?_) | (refine is_b_leq ?_; first | refine es_le_t ?_ | refine es_le_f ?_ | refine es_le ?_) | (refine is_b_gtr ?_; first | refine es_gt_t ?_ | refine es_gt_f ?_ | refine es_gt ?_) | (refine is_b_geq ?_; first | refine es_ge_t ?_ | refine es_ge_f ?_ | refine es_ge ?_) | (refine is_b_eql ?_; first | refine es_eq_t ?_ | refine es_eq_f ?_ | refine es_eq ?_ | refine es_seq_t ?_ | refine es_seq_f ?_ | refine es_seq ?_ | refine es_aeq_t ?_ | refine es_aeq ?_ | refine es_beq ?_ | refine es_eqn_ro ?_ | refine es_eqn_nil ?_ | refine es_eqp_ptr ?_ | refine es_eqp_nil ?_) | (refine is_b_neq ?_; first | refine es_ne_t ?_ | refine es_ne_f ?_ | refine es_ne ?_ | refine es_sne_t ?_ | refine es_sne_f ?_ | refine es_sne ?_ | refine es_ane_f ?_ | refine es_ane ?_ | refine es_bne ?_ | refine es_nen_ro ?_ | refine es_nen_nil ?_ | refine es_nep_ptr ?_ | refine es_nep_nil ?_) | (refine is_b_add ?_; first | refine es_add ?_ | refine es_sadd ?_) | (refine is_b_sub ?_; refine es_sub ?_) | (refine is_b_mul ?_; refine es_mul ?_) | (refine is_b_quo ?_; refine es_quo ?_) | (refine is_b_rem ?_; refine es_rem ?_) | (refine is_b_and ?_; first | refine es_andh ?_ | refine es_and ?_) | (refine is_b_or ?_; first | refine es_orh ?_ | refine es_or ?_) | (refine is_b_xor ?_; first | refine es_xorh ?_ | refine es_xor ?_) | (refine is_b_andNot ?_; first | refine es_andnh ?_ | refine es_andn ?_) | (refine is_b_shl ?_; refine es_shl ?_) | (refine is_b_shr ?_; refine es_shr ?_)) | (refine is_ld ?_; first | refine es_ld_rp ?_ | refine es_lda_rp ?_ | refine es_ld_ptr ?_ | refine es_lda_ptr ?_ | refine es_ld_ca ?_ | refine es_ld_ct ?_ | refine es_lda_row ?_) | (refine is_ixa ?_; first | refine es_ix_ro ?_ | refine es_ix_vw ?_ | refine es_ix_arr ?_ | refine es_ix_sub ?_) | (refine is_ix ?_; first | refine es_six ?_ | refine es_aixc ?_ | refine es_aix ?_) | (refine is_fa ?_; first | refine es_fa_ptr ?_ | refine es_fa_rp ?_) | (refine is_ext ?_; refine es_ext ?_) | (refine is_lk ?_; first | refine es_lk_r ?_ | refine es_lk_m ?_ | refine es_lo_r ?_ | refine es_lo_m ?_) | (refine is_pick ?_; first | refine es_pick_t ?_ | refine es_pick_f ?_ | refine es_pick ?_) | (refine is_call ?_; first | refine es_slen ?_ | refine es_len_ro ?_ | refine es_len_vw ?_ | refine es_len_nil ?_ | refine es_len_sub ?_ | refine es_len_str ?_ | refine es_min ?_ | refine es_max ?_ | refine es_len_m ?_) | (refine is_conv ?_; refine es_conv ?_) | (refine is_un ?_; first | refine es_not_t ?_ | refine es_not_f ?_ | refine es_not ?_ | refine es_neg ?_) | (refine is_fv ?_; first | refine es_fv ?_ | refine es_fva ?_) | (refine is_nil ?_; first | refine es_nil_ptr ?_ | refine es_nil_fn ?_) | (refine is_bld ?_; refine es_bld ?_) | (refine is_mf ?_; refine es_mf ?_) | (refine is_sl ?_; first | refine es_sl_arr ?_ | refine es_sl_h ?_ | refine es_sl_l ?_ | refine es_sl_b ?_ | refine es_ssl_h ?_ | refine es_ssl_l ?_ | refine es_ssl_b ?_ | refine es_vsl_h ?_ | refine es_vsl_l ?_ | refine es_vsl_b ?_ | refine es_vsl_3 ?_ | refine es_sl_3 ?_ | refine es_rsl_h ?_ | refine es_rsl_l ?_ | refine es_rsl_b ?_)) | refine es_skip ?_) | exact EvR.stop _ _)) : Tr P (.region id ops true) σ Q :=
  tr_drawn hm.h _ rfl hd hok ⟨σ', n', he, k⟩

theorem tr_cond_t {P : Program} {cnd : Operand} {x y : Code} {n : Nat} {tm : List (Nat × PV)} {S : List Blk} {Q : Exit → PS → Prop} (h : Tr P x ⟨n, tm, S⟩ Q) (hb : PS.get ⟨n, tm, S⟩ cnd = .v (.bool true) := by ((conv => lhs; whnf) <;> fail "no")) : Tr P (.cond cnd x y) ⟨n, tm, S⟩ Q := tr_cond hb (fun _ => h) (fun h => by cases h)
theorem tr_cond_f {P : Program} {cnd : Operand} {x y : Code} {n : Nat} {tm : List (Nat × PV)} {S : List Blk} {Q : Exit → PS → Prop} (h : Tr P y ⟨n, tm, S⟩ Q) (hb : PS.get ⟨n, tm, S⟩ cnd = .v (.bool false) := by ((conv => lhs; whnf) <;> fail "no")) : Tr P (.cond cnd x y) ⟨n, tm, S⟩ Q := tr_cond hb (fun h => by cases h) (fun _ => h)
theorem tr_cond_s {P : Program} {cnd : Operand} {x y : Code} {n : Nat} {tm : List (Nat × PV)} {S : List Blk} {Q : Exit → PS → Prop} {b : Bool} (ht : b = true → Tr P x ⟨n, tm, S⟩ Q) (hf : b = false → Tr P y ⟨n, tm, S⟩ Q) (hb : PS.get ⟨n, tm, S⟩ cnd = .v (.bool b) := by ((conv => lhs; whnf) <;> fail "no")) : Tr P (.cond cnd x y) ⟨n, tm, S⟩ Q := tr_cond hb ht hf
theorem sk {P : Program} {y : Code} {σ : PS} {Q : Exit → PS → Prop} (h : Tr P y σ Q) : Tr P (.seq .skip y) σ Q := tr_seq fun K hK => tr_skip (hK _ h)
theorem s_ret {P : Program} {y : Code} {σ : PS} {Q : Exit → PS → Prop} (h : Q .ret σ) : Tr P (.seq .ret y) σ Q := tr_seq fun K hK => tr_ret h
theorem s_exit {P : Program} {y : Code} {id : Nat} {σ : PS} {Q : Exit → PS → Prop} (h : Q (.exit id) σ) : Tr P (.seq (.exit id) y) σ Q := tr_seq fun K hK => tr_exit h
/-- Only so much is known from here on. -/
theorem forget {P : Program} {code : Code} {n : Nat} {tm : List (Nat × PV)} {S S' : List Blk} {Q : Exit → PS → Prop} (tm' : List (Nat × PV)) (k : Nat) (h : ∀ p ∈ tm', look p.1 tm = p.2) (hS : S.take k = S') (hc : Tr P code ⟨n, tm', S'⟩ Q) : Tr P code ⟨n, tm, S⟩ Q :=
  tr_forget tm' k h (by rw [hS]; exact hc)
/-- The end of a function. -/
theorem ends_ret {P : Program} {rs : List ResultVar} {R : PV → List Blk → Prop} {σ : PS} {x : PV} (h : R x σ.S) (hx : retPV P σ rs = some x := by ((conv => lhs; whnf) <;> fail "no")) : Ends P rs R .ret σ := ⟨x, hx, h⟩
theorem ends_normal {P : Program} {rs : List ResultVar} {R : PV → List Blk → Prop} {σ : PS} {x : PV} (h : R x σ.S) (hx : retPV P σ rs = some x := by ((conv => lhs; whnf) <;> fail "no")) : Ends P rs R .normal σ := ⟨x, hx, h⟩
theorem retPV_one {P : Program} {σ : PS} {t : Tmp} {x : PV} (h : look t σ.tm = x := by ((conv => lhs; whnf) <;> fail "no")) : retPV P σ [.tmp t] = some x := by simp [retPV, resPV, h]
theorem retPV_two {P : Program} {σ : PS} {t u : Tmp} {x y : PV} (h : look t σ.tm = x := by ((conv => lhs; whnf) <;> fail "no")) (h' : look u σ.tm = y := by ((conv => lhs; whnf) <;> fail "no")) : retPV P σ [.tmp t, .tmp u] = some (.tup [x, y]) := by simp [retPV, resPV, h, h']
theorem retPV_three {P : Program} {σ : PS} {t u v : Tmp} {x y z : PV} (h : look t σ.tm = x := by ((conv => lhs; whnf) <;> fail "no")) (h' : look u σ.tm = y := by ((conv => lhs; whnf) <;> fail "no")) (h'' : look v σ.tm = z := by ((conv => lhs; whnf) <;> fail "no")) : retPV P σ [.tmp t, .tmp u, .tmp v] = some (.tup [x, y, z]) := by simp [retPV, resPV, h, h', h'']
end Go.Proofs.YtenoecffjfcifaaDoor.Pv

-- Eighteenth text: operations that make memory, and calls, each by a law of its own.
namespace Go.Proofs.YtenoecffjfcifaaDoor.Pv
set_option linter.all false
open Go.RowKit
set_option linter.unusedVariables false

/-- Does a value hold no memory at all? -/
inductive PV.Plain : PV → Prop
  | v (x : Value) : PV.Plain (.v x)
  | agg {cs : List PV} (h : ∀ x ∈ cs, PV.Plain x) : PV.Plain (.agg cs)
  | tup {cs : List PV} (h : ∀ x ∈ cs, PV.Plain x) : PV.Plain (.tup cs)
theorem RelV.plain {c c' : Cx} {x : PV} {v : Value} (hp : x.Plain) (h : RelV c x v) : RelV c' x v := by
  induction h with
  | v x => exact .v x
  | undef y => exact .undef y
  | agg cs vs hs h1 hr ih => cases hp with | agg hp => exact .agg cs vs hs h1 (fun i x v k1 k2 => ih i x v k1 k2 (hp x (List.mem_of_getElem? k1)))
  | tup cs vs hs hr ih => cases hp with | tup hp => exact .tup cs vs hs (fun i x v k1 k2 => ih i x v k1 k2 (hp x (List.mem_of_getElem? k1)))
  | ro => cases hp
  | rp => cases hp
  | vw => cases hp
  | ptr => cases hp
  | sub => cases hp
  | fn => cases hp
  | iface => cases hp
  | mp => cases hp
  | it => cases hp
  | rmp => cases hp
  | rnil => cases hp

/-- A slice of one's own is lent: it is read as a slice that is only read. T: the blocks that are lent. -/
inductive Lend (S : List Blk) (T : List Nat) : PV → PV → Prop
  | same {x : PV} (h : x.Pure) : Lend S T x x
  | vw {τ g off len : Nat} {blk : Blk} {rows : List (List PV)} (hT : τ ∈ T) (hb : S[τ]? = some blk) (hg : blk.gen = g) (hr : (blk.rows.drop off).take len = rows) (hp : ∀ row ∈ rows, ∀ x ∈ row, PV.Pure x) : Lend S T (.vw τ g off len) (.ro blk.sz false rows)
  | agg {cs ds : List PV} (hl : cs.length = ds.length) (h : ∀ (i : Nat) (x y : PV), cs[i]? = some x → ds[i]? = some y → Lend S T x y) : Lend S T (.agg cs) (.agg ds)
  | nil {sz : Nat} {b : Bool} : Lend S T (.v (.slice none 0 0)) (.ro sz b [])

theorem Lend.pure {S : List Blk} {T : List Nat} {x y : PV} (h : Lend S T x y) : y.Pure := by
  induction h with
  | same h => exact h
  | vw hT hb hg hr hp => exact .ro hp
  | nil => exact .ro (by simp)
  | agg hl h ih =>
    refine .agg fun y hy => ?_
    obtain ⟨i, hi⟩ := List.mem_iff_getElem?.1 hy
    have hlt := (List.getElem?_eq_some_iff.1 hi).1
    exact ih i _ y (List.getElem?_eq_getElem (by omega)) hi

/-- The callee's place. -/
def Cx.lend (c : Cx) (T : List Nat) : Cx := { c with S := [], G := fun b => c.X b ∧ ¬ ∃ τ p blk, τ ∈ T ∧ c.S[τ]? = some blk ∧ c.β τ = some p ∧ p.1 = b }

theorem Lend.rel {c : Cx} (hi : Inv c) {T : List Nat} {x y : PV} (h : Lend c.S T x y) {v : Value} (hr : RelV c x v) : RelV (c.lend T) y v := by
  have hX : ∀ b, ¬ c.X b → ¬ (c.lend T).X b := by
    rintro b hb (h1 | ⟨τ, blk, p, h1, _⟩)
    · exact hb h1.1
    · simp [Cx.lend] at h1
  induction h generalizing v with
  | same h => exact hr.pure h hX (fun a u _ h => h) (fun _ _ _ _ h => h)
  | vw hT hb hg hrw hp =>
    rename_i τ g off len blk rows
    subst hrw
    cases hr with
    | vw _ _ _ _ _ hy hN hv =>
      obtain ⟨h1, a, cap, rfl, h2, h3, h4⟩ := hv blk hb hg
      have hlen : ((blk.rows.drop off).take len).length = len := by simp; omega
      have hB := hi.blk τ blk hb
      have key : ∀ (vals : Nat → Nat → Value), (∀ (i : Nat) (row : List PV), ((blk.rows.drop off).take len)[i]? = some row → row.length = blk.sz) → (∀ ad : Addr, a = some ad → ∀ (i : Nat) (row : List PV) (j : Nat) (x : PV), ((blk.rows.drop off).take len)[i]? = some row → row[j]? = some x →
          ad.spot = none ∧ ¬ (c.lend T).X ad.block ∧ c.w.cell? ⟨ad.block, ad.off + (i * blk.sz + j), none⟩ = some (vals i j) ∧ (vals i j).oneCell' = true) →
          (∀ (i : Nat) (row : List PV) (j : Nat) (x : PV), ((blk.rows.drop off).take len)[i]? = some row → row[j]? = some x → RelV (c.lend T) x (vals i j)) → (a = none → (blk.rows.drop off).take len = []) → RelV (c.lend T) (.ro blk.sz false ((blk.rows.drop off).take len)) (.slice a len cap) := by
        intro vals hln k1 k2 k3
        have := RelV.ro (c := c.lend T) blk.sz false ((blk.rows.drop off).take len) a cap vals (by rw [hlen]; exact h2) h3 (fun h => by cases h) k3 hln k1
          (fun i row j x hr hx => hp row (List.mem_of_getElem? hr) x (List.mem_of_getElem? hx)) k2
        rw [hlen] at this
        exact this
      rcases h4 with ⟨p, hpp, rfl, cs0, e0, fz0, hc0, _⟩ | ⟨h4, rfl⟩
      · obtain ⟨hBlen, cs, e', fz, k1, k2, k3, k4⟩ := (hB.heap p hpp).cells ⟨cs0, e0, fz0, hc0⟩
        have get : ∀ (i : Nat) (row : List PV) (j : Nat) (x : PV), ((blk.rows.drop off).take len)[i]? = some row → row[j]? = some x → ∃ v, c.w.cell? ⟨p.1, p.2 + off * blk.sz + (i * blk.sz + j), none⟩ = some v ∧ v.oneCell' = true ∧ RelV c x v := by
          intro i row j x hr hx
          obtain ⟨v, v1, v2, v3⟩ := k3 _ row j x (drop_take_get hr).1 hx
          refine ⟨v, ?_, v2, v3⟩
          rw [cell_of k1, ← v1, Nat.add_mul]
          congr 1
          omega
        let vals : Nat → Nat → Value := fun i j => (c.w.cell? ⟨p.1, p.2 + off * blk.sz + (i * blk.sz + j), none⟩).getD default
        refine key vals (fun i row hr => hBlen _ row (drop_take_get hr).1) (fun ad ha i row j x hr hx => ?_) (fun i row j x hr hx => ?_) (fun h => by cases h)
        · cases ha
          obtain ⟨v, v1, v2, v3⟩ := get i row j x hr hx
          refine ⟨rfl, ?_, by simp only [vals, v1]; rfl, by simp only [vals, v1]; exact v2⟩
          rintro (h | ⟨t, b, q, h, _⟩)
          · exact h.2 ⟨τ, p, blk, hT, hb, hpp, rfl⟩
          · simp [Cx.lend] at h
        · obtain ⟨v, v1, v2, v3⟩ := get i row j x hr hx
          simp only [vals, v1]
          exact v3.pure (hp row (List.mem_of_getElem? hr) x (List.mem_of_getElem? hx)) hX (fun a u _ h => h) (fun _ _ _ _ h => h)
      · have hnil : (blk.rows.drop off).take len = [] := List.eq_nil_of_length_eq_zero (by rw [hlen]; exact h4)
        exact key (fun _ _ => default) (fun i row hr => by rw [hnil] at hr; simp at hr) (fun ad _ i row j x hr => by rw [hnil] at hr; simp at hr) (fun i row j x hr => by rw [hnil] at hr; simp at hr) (fun _ => hnil)
  | nil =>
    cases hr
    rename_i sz b
    exact .ro sz b [] none 0 (fun _ _ => .nilIface) (Nat.le_refl _) (by simp) (by simp) (by simp) (by simp) (by simp) (by simp) (by simp)
  | agg hl h ih =>
    cases hr with
    | agg _ vs hs h1 hr =>
      refine .agg _ _ (hs.trans hl) h1 (fun i y v hy hv => ?_)
      rename_i cs ds
      have hlt := (List.getElem?_eq_some_iff.1 hy).1
      have hx : cs[i]? = some (cs[i]'(by omega)) := List.getElem?_eq_getElem _
      exact ih i _ y hx hy (hr i _ v hx hv)

/-- A call of pure values, whose arguments may be slices of one's own, lent. -/
theorem PCall.lent {P : Program} {f : FuncId} {asv args : List PV} {r : PV} (h : PCall P f asv r) {S : List Blk} (T : List Nat) (hl : args.length = asv.length) (ha : ∀ (i : Nat) (x y : PV), args[i]? = some x → asv[i]? = some y → Lend S T x y)
    (hr : r.Plain ∨ ∀ τ ∈ T, ∀ blk, S[τ]? = some blk → blk.own = false) : GCall P f args S fun x S' => x = r ∧ S' = S := by
  intro c vals hi hs hlen hv
  obtain ⟨hp, hpr, hc⟩ := h
  subst hs
  have hi1 : Inv (c.lend T) := ⟨fun τ blk h => by simp [Cx.lend] at h, fun τ blk p h => by simp [Cx.lend] at h, fun τ τ' b b' p p' h => by simp [Cx.lend] at h, fun b hb => by
    rcases hb.1 with hb | hb
    · exact hi.gLt b hb
    · exact Cx.Own.lt hi hb, hi.wi.none rfl rfl⟩
  refine (hc (c.lend T) vals hi1 rfl (hlen.trans hl) (fun i y v h1 h2 => ?_)).mono ?_
  · have hlt := (List.getElem?_eq_some_iff.1 h1).1
    have hx : args[i]? = some (args[i]'(by omega)) := List.getElem?_eq_getElem _
    exact (ha i _ y hx h1).rel hi (hv i _ v hx h2)
  rintro e w' ⟨v, x, c', rfl, rfl, rfl, hi', hst, hrr⟩
  have hno : ∀ b, ¬ (c.lend T).Own b := fun b ⟨τ, blk, p, h1, _⟩ => by simp [Cx.lend] at h1
  have hall : ∀ b, b < c.w.heap.size → c'.w.heap[b]? = c.w.heap[b]? := fun b hb => hst.blocks b hb (hno b)
  let c2 : Cx := { c with w := c'.w }
  have hst2 : Step c c2 := ⟨rfl, hst.os, hst.tape, hst.output, hst.size, Nat.le_refl _, fun b hb _ => hall b hb, fun τ blk h _ => ⟨blk, h, rfl, rfl, rfl, rfl⟩, fun b h => .inl h, fun b cs e fz h => ⟨cs, fz, by rw [hall b (Array.getElem?_eq_some_iff.1 h).1]; exact h, rfl⟩⟩
  have hi2 : Inv c2 := ⟨fun τ blk h => by
    have hB := hi.blk τ blk h
    exact ⟨hB.gen, hB.void, fun p hp => (hB.heap p hp).move (fun x v h => h.step hst2) (hall _ (hB.heap p hp).lt)⟩, hi.notG, hi.inj, fun b hb => Nat.lt_of_lt_of_le (hi.gLt b hb) hst.size, hi.wi.step hst2⟩
  refine ⟨v, x, c2, rfl, rfl, ⟨rfl, rfl⟩, hi2, hst2, ?_⟩
  rcases hr with hr | hr
  · exact hrr.plain hr
  · refine hrr.pure hpr (fun b hb h => hb ?_) (fun a u _ h => h) (fun _ _ _ _ h => h)
    have hX : c.X b := h
    refine .inl ?_
    rw [hst.G]
    refine ⟨hX, ?_⟩
    rintro ⟨τ, p, blk, hT, hbk, hp, rfl⟩
    have hown := hr τ hT blk hbk
    rcases hX with h1 | ⟨t, b, q, h1, h2, h3, h4⟩
    · exact hi.notG τ blk p hbk hp h1
    · have := hi.inj t τ b blk q p h1 hbk h2 h3 hp h4
      subst this
      rw [hbk] at h1
      cases h1
      rw [hown] at h2
      cases h2

/-- A function that has a body. -/
class FnOk (P : Program) (f : FuncId) : Prop where
  h : ∃ fn, P.funcs[f]? = some fn ∧ fn.body.isSome = true ∧ (fn.name == "runtime.NumGoroutine") = false

section
variable {P : Program} {ops : List Oper} {Q : PS → Prop} {rest : List Oper} {n : Nat} {tm : List (Nat × PV)} {S S' : List Blk} {d : Tmp} {ty : TypeId} {pos : String} {af : Array Edge} {t tx e : TypeId} {x y s : Operand}

theorem pops_one {o : Oper} {σ : PS} (hg : o.guard = none) (h : PopSem P σ o fun x S' => Pops P ops Q rest (σ.put o.dst x S')) : Pops P ops Q (o :: rest) σ := by
  unfold Pops
  rw [hg]
  exact h

theorem ps_alloc {z : List PV} [hz : Zer P t z] {m sz : Nat} {S' : Nat → List Blk} (k : ∀ g, Pops P ops Q rest ⟨n, (d, .ptr m g 0 0) :: tm, S' g⟩) (hm : S.length = m := by first | (simp only [List.length_cons, List.length_nil, Nat.reduceAdd, Nat.zero_add]; exact rfl) | exact rfl) (hs : z.length = sz := by first | (simp only [List.length_cons, List.length_nil, Nat.reduceAdd, Nat.zero_add]; exact rfl) | exact rfl) (hS : ∀ g, S ++ [⟨g, true, sz, [z]⟩] = S' g := by intro g_; first | (simp only [List.cons_append, List.nil_append]; exact rfl) | exact rfl) :
    Pops P ops Q (⟨some d, .alloc t, ty, pos, af, none⟩ :: rest) ⟨n, tm, S⟩ :=
  pops_one rfl (pop_alloc rfl hz.h fun g => by subst hm hs; rw [hS g]; exact k g)
theorem ps_mkmap {m : Nat} {S' : Nat → List Blk} (k : ∀ g, Pops P ops Q rest ⟨n, (d, .mp m g) :: tm, S' g⟩) (hm : S.length = m := by first | (simp only [List.length_cons, List.length_nil, Nat.reduceAdd, Nat.zero_add]; exact rfl) | exact rfl) (hS : ∀ g, S ++ [⟨g, true, 0, [[.rmp []]]⟩] = S' g := by intro g_; first | (simp only [List.cons_append, List.nil_append]; exact rfl) | exact rfl) :
    Pops P ops Q (⟨some d, .makeMap t none, ty, pos, af, none⟩ :: rest) ⟨n, tm, S⟩ :=
  pops_one rfl (pop_makeMap rfl fun g => by subst hm; rw [hS g]; exact k g)
theorem ps_mapu {kt et : TypeId} {y' : Operand} [ht : Und P t (.map kt et)] [hk : Und P kt .string] {τ g : Nat} {es es' : List (ByteArray × Int)} {s : ByteArray} {z : Int} (k : Pops P ops Q rest ⟨n, tm, S'⟩) (hx : PS.get ⟨n, tm, S⟩ x = .mp τ g := by ((conv => lhs; whnf) <;> fail "no")) (hb : S[τ]? = some ⟨g, true, 0, [[.rmp es]]⟩ := by first | ((conv => lhs; whnf) <;> fail "no") | assumption) (hy : PS.get ⟨n, tm, S⟩ y = .v (.string s) := by ((conv => lhs; whnf) <;> fail "no")) (hv : PS.get ⟨n, tm, S⟩ y' = .v (.int .i64 z) := by ((conv => lhs; whnf) <;> fail "no")) (he : mput s z es = es' := by first | assumption | exact rfl)
    (hS : S.set τ ⟨g, true, 0, [[.rmp es']]⟩ = S' := by first | (simp only [List.set_cons_zero, List.set_cons_succ]; exact rfl) | exact rfl) : Pops P ops Q (⟨none, .mapUpdate t x y y', ty, pos, af, none⟩ :: rest) ⟨n, tm, S⟩ :=
  pops_one rfl (pop_mapUpdate rfl rfl ht.h hk.h hx hb hy hv (by subst he hS; exact k))
theorem ps_box {c : List PV} {m sz : Nat} {S' : Nat → List Blk} (k : ∀ g, Pops P ops Q rest ⟨n, (d, .ptr m g 0 0) :: tm, S' g⟩) (hc : cellsPV (PS.get ⟨n, tm, S⟩ x) = some c := by ((conv => lhs; whnf) <;> fail "no")) (hm : S.length = m := by first | (simp only [List.length_cons, List.length_nil, Nat.reduceAdd, Nat.zero_add]; exact rfl) | exact rfl) (hs : c.length = sz := by first | (simp only [List.length_cons, List.length_nil, Nat.reduceAdd, Nat.zero_add]; exact rfl) | exact rfl) (hS : ∀ g, S ++ [⟨g, true, sz, [c]⟩] = S' g := by intro g_; first | (simp only [List.cons_append, List.nil_append]; exact rfl) | exact rfl) :
    Pops P ops Q (⟨some d, .box t x, ty, pos, af, none⟩ :: rest) ⟨n, tm, S⟩ :=
  pops_one rfl (pop_box rfl hc fun g => by subst hm hs; rw [hS g]; exact k g)
theorem ps_store {sz : Nat} [hc : Cel P t sz] {bb : Bool} [ha : AggT P t bb] {τ g i off : Nat} {blk : Blk} {row cs row' : List PV} {py : PV} (k : Pops P ops Q rest ⟨n, tm, S'⟩) (hx : PS.get ⟨n, tm, S⟩ x = .ptr τ g i off := by ((conv => lhs; whnf) <;> fail "no")) (hb : S[τ]? = some blk := by first | ((conv => lhs; whnf) <;> fail "no") | assumption) (hg : blk.gen = g := by rfl) (ho : blk.own = true := by rfl)
    (hr : blk.rows[i]? = some row := by first | ((conv => lhs; whnf) <;> fail "no") | exact ints_get _ _ _ (by omega) | assumption) (hy : PS.get ⟨n, tm, S⟩ y = py := by ((conv => lhs; whnf) <;> fail "no")) (hv : cellsPV py = some cs := by ((conv => lhs; whnf) <;> fail "no")) (hn : sz = cs.length := by rfl) (hle : off + cs.length ≤ row.length := by first | decide | (simp only [List.length_cons, List.length_nil]; omega) | omega) (hov : over row off cs = row' := by first | (simp only [over, List.take_zero, List.take_succ_cons, List.drop_succ_cons, List.drop_zero, List.nil_append, List.cons_append, List.length_cons, List.length_nil, Nat.reduceAdd, Nat.zero_add, List.drop_nil, List.append_nil]; exact rfl) | exact rfl) (hS : S.set τ { blk with rows := blk.rows.set i row' } = S' := by first | (simp only [List.set_cons_zero, List.set_cons_succ]; exact rfl) | exact rfl) :
    Pops P ops Q (⟨none, .store t x y, ty, pos, af, none⟩ :: rest) ⟨n, tm, S⟩ :=
  pops_one rfl (pop_store rfl rfl ha.h.2 hx hb hg ho hr (by rw [hy]; exact hv) (by rw [hc.h, hn]) hle (by subst hov hS; exact k))
theorem ps_seti {k0 : IntKind} {l : List Int} {b : Int} [hc : Cel P t 1] {bb : Bool} [ha : AggT P t bb] {τ g i gg : Nat} (k : Pops P ops Q rest ⟨n, tm, S'⟩) (hx : PS.get ⟨n, tm, S⟩ x = .ptr τ g i 0 := by ((conv => lhs; whnf) <;> fail "no")) (hb : S[τ]? = some ⟨gg, true, 1, ints k0 l⟩ := by first | ((conv => lhs; whnf) <;> fail "no") | exact rfl | assumption) (hg : gg = g := by rfl)
    (hi : i < l.length := by omega) (hv : PS.get ⟨n, tm, S⟩ y = .v (.int k0 b) := by ((conv => lhs; whnf) <;> fail "no")) (hS : S.set τ ⟨gg, true, 1, ints k0 (l.set i b)⟩ = S' := by first | (simp only [List.set_cons_zero, List.set_cons_succ]; exact rfl) | exact rfl) :
    Pops P ops Q (⟨none, .store t x y, ty, pos, af, none⟩ :: rest) ⟨n, tm, S⟩ :=
  ps_store (P := P) (sz := 1) (bb := bb) (row := [.v (.int k0 (l.getD i 0))]) (cs := [.v (.int k0 b)]) (row' := [.v (.int k0 b)]) k hx hb hg rfl (ints_get k0 l i hi) hv rfl rfl (by simp) rfl (by rw [← hS, ← ints_set])

theorem srcRows_ints {kk : IntKind} {l : List Int} {τ g gg : Nat} {o : Bool} (hb : S[τ]? = some ⟨gg, o, 1, ints kk l⟩) (hg : gg = g) : srcRows S 1 (.vw τ g 0 l.length) = some (ints kk l) := by
  subst hg
  have : (ints kk l).take l.length = ints kk l := by rw [← ints_length kk l, List.take_length]
  simp [srcRows, hb, this, ints_length]
theorem ps_app_vw {z : List PV} {sz by_ : Nat} [ht : Und P t (.slice e)] [hz : Zer P e z] [hc : Cel P e sz] [hby : Byt P e by_] {τ g gg len m : Nat} {rows0 rows rows' : List (List PV)} {S' : Nat → List Blk} (k : ∀ g', Pops P ops Q rest ⟨n, (d, .vw τ g' 0 m) :: tm, S' g'⟩)
    (hs : PS.get ⟨n, tm, S⟩ s = .vw τ g 0 len := by ((conv => lhs; whnf) <;> fail "no")) (hb : S[τ]? = some ⟨gg, true, sz, rows0⟩ := by first | ((conv => lhs; whnf) <;> fail "no") | exact rfl | assumption) (hg : gg = g := by rfl) (hlen : len = rows0.length := by first | exact ints_length _ _ | exact (ints_length _ _).symm | (simp only [ints_length, List.length_map, List.length_set, List.length_append, List.length_cons, List.length_nil, Nat.reduceAdd, Nat.zero_add, Nat.add_zero] <;> first | exact rfl | omega) | exact rfl | omega) (hsrc : srcRows S sz (PS.get ⟨n, tm, S⟩ x) = some rows := by first | (simp only [PS.get, look, ↓reduceIte, Nat.reduceEqDiff, reduceCtorEq, srcRows, List.getElem?_cons_zero, List.getElem?_cons_succ, and_self, List.drop_zero, List.take_succ_cons, List.take_zero, List.take_nil] <;> exact rfl) | exact rfl) (hk : srcKind P tx (PS.get ⟨n, tm, S⟩ x) = true := by rfl) (hm : len + rows.length = m := by first | exact ints_length _ _ | exact (ints_length _ _).symm | (simp only [ints_length, List.length_map, List.length_set, List.length_append, List.length_cons, List.length_nil, Nat.reduceAdd, Nat.zero_add, Nat.add_zero] <;> first | exact rfl | omega) | exact rfl | omega) (hrows : rows0 ++ rows = rows' := by first | exact ints_snoc _ _ _ | exact ints_append _ _ _ | (simp only [List.nil_append, List.cons_append, List.append_nil]; exact rfl) | exact rfl)
    (h63 : m ≤ maxLen := by (simp only [maxLen]; omega)) (hbt : m * by_ ≤ 140737488355328 := by omega) (hS : ∀ g', S.set τ ⟨g', true, sz, rows'⟩ = S' g' := by intro g_; first | (simp only [List.set_cons_zero, List.set_cons_succ]; exact rfl) | exact rfl) (hzl : z.length = sz := by rfl) (hpos : 0 < sz := by decide) :
    Pops P ops Q (⟨some d, .call ⟨.builtin .append, #[s, x], #[t, tx]⟩, ty, pos, af, none⟩ :: rest) ⟨n, tm, S⟩ := by
  subst hg hm hrows
  refine pops_one rfl (pop_append rfl ht.h hz.h sz hc.h hzl hpos hk hsrc (by rw [hs]; exact h63) (by rw [hs, hby.h]; exact hbt) fun g' => ?_)
  have : appRes S sz (PS.get ⟨n, tm, S⟩ s) rows g' = some (.vw τ g' 0 (len + rows.length), S' g') := by
    rw [hs, ← hS g']
    simp only [appRes, hb, hlen, Nat.zero_add, and_self, if_true, List.drop_zero]
  rw [this]
  exact k g'
theorem ps_app_nil {z : List PV} {sz by_ : Nat} [ht : Und P t (.slice e)] [hz : Zer P e z] [hc : Cel P e sz] [hby : Byt P e by_] {m τ : Nat} {rows : List (List PV)} {S' : Nat → List Blk} (k : ∀ g', Pops P ops Q rest ⟨n, (d, .vw τ g' 0 m) :: tm, S' g'⟩)
    (hs : PS.get ⟨n, tm, S⟩ s = .v (.slice none 0 0) := by ((conv => lhs; whnf) <;> fail "no")) (hsrc : srcRows S sz (PS.get ⟨n, tm, S⟩ x) = some rows := by first | (simp only [PS.get, look, ↓reduceIte, Nat.reduceEqDiff, reduceCtorEq, srcRows, List.getElem?_cons_zero, List.getElem?_cons_succ, and_self, List.drop_zero, List.take_succ_cons, List.take_zero, List.take_nil] <;> exact rfl) | exact rfl) (hk : srcKind P tx (PS.get ⟨n, tm, S⟩ x) = true := by rfl) (hm : rows.length = m := by first | exact ints_length _ _ | exact (ints_length _ _).symm | (simp only [ints_length, List.length_map, List.length_set, List.length_append, List.length_cons, List.length_nil, Nat.reduceAdd, Nat.zero_add, Nat.add_zero] <;> first | exact rfl | omega) | exact rfl | omega) (hτ : S.length = τ := by first | (simp only [List.length_cons, List.length_nil, Nat.reduceAdd, Nat.zero_add]; exact rfl) | exact rfl)
    (h63 : m ≤ maxLen := by (simp only [maxLen]; omega)) (hbt : m * by_ ≤ 140737488355328 := by omega) (hS : ∀ g', S ++ [⟨g', true, sz, rows⟩] = S' g' := by intro g_; first | (simp only [List.cons_append, List.nil_append]; exact rfl) | exact rfl) (hzl : z.length = sz := by rfl) (hpos : 0 < sz := by decide) :
    Pops P ops Q (⟨some d, .call ⟨.builtin .append, #[s, x], #[t, tx]⟩, ty, pos, af, none⟩ :: rest) ⟨n, tm, S⟩ := by
  subst hm hτ
  refine pops_one rfl (pop_append rfl ht.h hz.h sz hc.h hzl hpos hk hsrc (by rw [hs]; simpa [appLen] using h63) (by rw [hs, hby.h]; simpa [appLen] using hbt) fun g' => ?_)
  have : appRes S sz (PS.get ⟨n, tm, S⟩ s) rows g' = some (.vw S.length g' 0 rows.length, S' g') := by
    rw [hs, ← hS g']
    rfl
  rw [this]
  exact k g'
theorem ps_app_ro {z : List PV} {sz by_ : Nat} [ht : Und P t (.slice e)] [hz : Zer P e z] [hc : Cel P e sz] [hby : Byt P e by_] {m τ : Nat} {rows0 rows rows' : List (List PV)} {S' : Nat → List Blk} (k : ∀ g', Pops P ops Q rest ⟨n, (d, .vw τ g' 0 m) :: tm, S' g'⟩)
    (hs : PS.get ⟨n, tm, S⟩ s = .ro sz true rows0 := by ((conv => lhs; whnf) <;> fail "no")) (hor : rows0 = [] ∨ 0 < rows.length := by first | exact .inl rfl | (right; (first | exact ints_length _ _ | exact (ints_length _ _).symm | (simp only [ints_length, List.length_map, List.length_set, List.length_append, List.length_cons, List.length_nil, Nat.reduceAdd, Nat.zero_add, Nat.add_zero] <;> first | exact rfl | omega) | exact rfl | omega))) (hsrc : srcRows S sz (PS.get ⟨n, tm, S⟩ x) = some rows := by first | (simp only [PS.get, look, ↓reduceIte, Nat.reduceEqDiff, reduceCtorEq, srcRows, List.getElem?_cons_zero, List.getElem?_cons_succ, and_self, List.drop_zero, List.take_succ_cons, List.take_zero, List.take_nil] <;> exact rfl) | exact rfl) (hk : srcKind P tx (PS.get ⟨n, tm, S⟩ x) = true := by rfl) (hm : rows0.length + rows.length = m := by first | exact ints_length _ _ | exact (ints_length _ _).symm | (simp only [ints_length, List.length_map, List.length_set, List.length_append, List.length_cons, List.length_nil, Nat.reduceAdd, Nat.zero_add, Nat.add_zero] <;> first | exact rfl | omega) | exact rfl | omega) (hrows : rows0 ++ rows = rows' := by first | exact ints_snoc _ _ _ | exact ints_append _ _ _ | (simp only [List.nil_append, List.cons_append, List.append_nil]; exact rfl) | exact rfl) (hτ : S.length = τ := by first | (simp only [List.length_cons, List.length_nil, Nat.reduceAdd, Nat.zero_add]; exact rfl) | exact rfl)
    (h63 : m ≤ maxLen := by (simp only [maxLen]; omega)) (hbt : m * by_ ≤ 140737488355328 := by omega) (hS : ∀ g', S ++ [⟨g', true, sz, rows'⟩] = S' g' := by intro g_; first | (simp only [List.cons_append, List.nil_append]; exact rfl) | exact rfl) (hzl : z.length = sz := by rfl) (hpos : 0 < sz := by decide) :
    Pops P ops Q (⟨some d, .call ⟨.builtin .append, #[s, x], #[t, tx]⟩, ty, pos, af, none⟩ :: rest) ⟨n, tm, S⟩ := by
  subst hm hτ hrows
  refine pops_one rfl (pop_append rfl ht.h hz.h sz hc.h hzl hpos hk hsrc (by rw [hs]; exact h63) (by rw [hs, hby.h]; exact hbt) fun g' => ?_)
  have : appRes S sz (PS.get ⟨n, tm, S⟩ s) rows g' = some (.vw S.length g' 0 (rows0.length + rows.length), S' g') := by
    rw [hs, ← hS g']
    simp only [appRes, true_and, if_pos hor]
  rw [this]
  exact k g'

/-- A call of a function of pure values. -/
theorem ps_pcall {f : FuncId} [hf : FnOk P f] {args : Array Operand} {ats : Array TypeId} {asv : List PV} {r : PV} (h : PCall P f asv r) (k : Pops P ops Q rest ⟨n, (d, r) :: tm, S⟩) (ha : args.toList.map (PS.get ⟨n, tm, S⟩) = asv := by first | rfl | (simp only [List.map_cons, List.map_nil, PS.get, look, ↓reduceIte, Nat.reduceEqDiff, reduceCtorEq]; exact rfl)) :
    Pops P ops Q (⟨some d, .call ⟨.value (.func f), args, ats⟩, ty, pos, af, none⟩ :: rest) ⟨n, tm, S⟩ := by
  obtain ⟨fn, h1, h2, h3⟩ := hf.h
  refine pops_one rfl (pop_call rfl rfl rfl h1 h2 h3 (R := fun x S' => x = r ∧ S' = S) ?_ fun x S' ⟨e1, e2⟩ => by subst e1 e2; exact k)
  simp only [List.nil_append, List.append_nil, ha]
  exact h.any S
/-- The same, slices of one's own lent. -/
theorem ps_lcall {f : FuncId} [hf : FnOk P f] {args : Array Operand} {ats : Array TypeId} {asv bs : List PV} {r : PV} (h : PCall P f bs r) (T : List Nat) (hl : asv.length = bs.length) (hb : ∀ (i : Nat) (x y : PV), asv[i]? = some x → bs[i]? = some y → Lend S T x y) (hr : r.Plain ∨ ∀ τ ∈ T, ∀ blk, S[τ]? = some blk → blk.own = false) (k : Pops P ops Q rest ⟨n, (d, r) :: tm, S⟩) (ha : args.toList.map (PS.get ⟨n, tm, S⟩) = asv := by first | rfl | (simp only [List.map_cons, List.map_nil, PS.get, look, ↓reduceIte, Nat.reduceEqDiff, reduceCtorEq]; exact rfl)) :
    Pops P ops Q (⟨some d, .call ⟨.value (.func f), args, ats⟩, ty, pos, af, none⟩ :: rest) ⟨n, tm, S⟩ := by
  obtain ⟨fn, h1, h2, h3⟩ := hf.h
  refine pops_one rfl (pop_call rfl rfl rfl h1 h2 h3 (R := fun x S' => x = r ∧ S' = S) ?_ fun x S' ⟨e1, e2⟩ => by subst e1 e2; exact k)
  simp only [List.nil_append, List.append_nil, ha]
  exact h.lent T hl hb hr
/-- A call that may change blocks. -/
theorem ps_gcall {f : FuncId} [hf : FnOk P f] {args : Array Operand} {ats : Array TypeId} {asv : List PV} {R : PV → List Blk → Prop} (h : GCall P f asv S R) (k : ∀ x S', R x S' → Pops P ops Q rest ⟨n, (d, x) :: tm, S'⟩) (ha : args.toList.map (PS.get ⟨n, tm, S⟩) = asv := by first | rfl | (simp only [List.map_cons, List.map_nil, PS.get, look, ↓reduceIte, Nat.reduceEqDiff, reduceCtorEq]; exact rfl)) :
    Pops P ops Q (⟨some d, .call ⟨.value (.func f), args, ats⟩, ty, pos, af, none⟩ :: rest) ⟨n, tm, S⟩ := by
  obtain ⟨fn, h1, h2, h3⟩ := hf.h
  refine pops_one rfl (pop_call rfl rfl rfl h1 h2 h3 (R := R) ?_ k)
  simp only [List.nil_append, List.append_nil, ha]
  exact h
/-- A call of a function value. -/
theorem ps_vcall {f : FuncId} [hf : FnOk P f] {fo : Operand} {first captured : List PV} {args : Array Operand} {ats : Array TypeId} {us : List PV} {R : PV → List Blk → Prop} (h : GCall P f (first ++ us ++ captured) S R) (k : ∀ x S', R x S' → Pops P ops Q rest ⟨n, (d, x) :: tm, S'⟩) (hv : PS.get ⟨n, tm, S⟩ fo = .fn (.func f) first captured := by ((conv => lhs; whnf) <;> fail "no")) (ha : args.toList.map (PS.get ⟨n, tm, S⟩) = us := by first | rfl | (simp only [List.map_cons, List.map_nil, PS.get, look, ↓reduceIte, Nat.reduceEqDiff, reduceCtorEq]; exact rfl)) :
    Pops P ops Q (⟨some d, .call ⟨.value fo, args, ats⟩, ty, pos, af, none⟩ :: rest) ⟨n, tm, S⟩ := by
  obtain ⟨fn, h1, h2, h3⟩ := hf.h
  refine pops_one rfl (pop_call rfl rfl hv h1 h2 h3 (R := R) ?_ k)
  rw [ha]
  exact h
/-- In a region that draws its order: a call of a function of pure values. -/
theorem pd_pcall {f : FuncId} [hf : FnOk P f] {args : Array Operand} {ats : Array TypeId} {asv : List PV} {r : PV} (h : PCall P f asv r) (k : PStL P ops Q rest ⟨n, (d, r) :: tm, S⟩) (ha : args.toList.map (PS.get ⟨n, tm, S⟩) = asv := by first | rfl | (simp only [List.map_cons, List.map_nil, PS.get, look, ↓reduceIte, Nat.reduceEqDiff, reduceCtorEq]; exact rfl)) :
    PStL P ops Q (⟨some d, .call ⟨.value (.func f), args, ats⟩, ty, pos, af, none⟩ :: rest) ⟨n, tm, S⟩ := by
  obtain ⟨fn, h1, h2, h3⟩ := hf.h
  refine ⟨r, ?_, k⟩
  unfold GSt
  exact .call _ _ f fn [] [] rfl rfl rfl h1 h2 h3 (by simp only [List.nil_append, List.append_nil, ha]; exact h)
/-- The same, guarded. -/
theorem pd_pcall_g {f : FuncId} [hf : FnOk P f] {args : Array Operand} {ats : Array TypeId} {asv : List PV} {r : PV} {j : Nat} {w : Bool} (h : PCall P f asv r) (k : PStL P ops Q rest ⟨n, (d, r) :: tm, S⟩) (hg : guardPV ops ⟨n, tm, S⟩ j w = some w := by ((conv => lhs; whnf) <;> fail "no")) (ha : args.toList.map (PS.get ⟨n, tm, S⟩) = asv := by first | rfl | (simp only [List.map_cons, List.map_nil, PS.get, look, ↓reduceIte, Nat.reduceEqDiff, reduceCtorEq]; exact rfl)) :
    PStL P ops Q (⟨some d, .call ⟨.value (.func f), args, ats⟩, ty, pos, af, some (j, w)⟩ :: rest) ⟨n, tm, S⟩ := by
  obtain ⟨fn, h1, h2, h3⟩ := hf.h
  refine ⟨r, ?_, k⟩
  unfold GSt
  exact .inl ⟨hg, .call _ _ f fn [] [] rfl rfl rfl h1 h2 h3 (by simp only [List.nil_append, List.append_nil, ha]; exact h)⟩
/-- A guarded operation that is done. -/
theorem ps_guard {o : Oper} {σ : PS} {j : Nat} {w : Bool} (ho : o.guard = some (j, w)) (hg : guardPV ops σ j w = some w) (h : PopSem P σ o fun x S' => Pops P ops Q rest (σ.put o.dst x S')) : Pops P ops Q (o :: rest) σ := by
  unfold Pops
  rw [ho]
  exact ⟨w, hg, fun _ => h, fun h' => by cases w <;> cases h'⟩
theorem ps_pcall_g {f : FuncId} [hf : FnOk P f] {args : Array Operand} {ats : Array TypeId} {asv : List PV} {r : PV} {j : Nat} {w : Bool} (h : PCall P f asv r) (k : Pops P ops Q rest ⟨n, (d, r) :: tm, S⟩) (hg : guardPV ops ⟨n, tm, S⟩ j w = some w := by ((conv => lhs; whnf) <;> fail "no")) (ha : args.toList.map (PS.get ⟨n, tm, S⟩) = asv := by first | rfl | (simp only [List.map_cons, List.map_nil, PS.get, look, ↓reduceIte, Nat.reduceEqDiff, reduceCtorEq]; exact rfl)) :
    Pops P ops Q (⟨some d, .call ⟨.value (.func f), args, ats⟩, ty, pos, af, some (j, w)⟩ :: rest) ⟨n, tm, S⟩ := by
  obtain ⟨fn, h1, h2, h3⟩ := hf.h
  refine ps_guard rfl hg (pop_call rfl rfl rfl h1 h2 h3 (R := fun x S' => x = r ∧ S' = S) ?_ fun x S' ⟨e1, e2⟩ => by subst e1 e2; exact k)
  simp only [List.nil_append, List.append_nil, ha]
  exact h.any S
end
end Go.Proofs.YtenoecffjfcifaaDoor.Pv

-- Nineteenth text: slices of given elements, and made ones.
namespace Go.Proofs.YtenoecffjfcifaaDoor.Pv
set_option linter.all false
open Go.RowKit
set_option linter.unusedVariables false

/-- Elements laid into rows. -/
def fillRows (sz : Nat) : List (List PV) → List (Nat × PV) → Option (List (List PV))
  | rows, [] => some rows
  | rows, (i, x) :: ps => match cellsPV x with
    | some cs => if cs.length = sz ∧ i < rows.length then fillRows sz (rows.set i cs) ps else none
    | none => none

theorem flatten_length {sz : Nat} : ∀ (rows : List (List PV)), (∀ (i : Nat) (row : List PV), rows[i]? = some row → row.length = sz) → rows.flatten.length = rows.length * sz
  | [], _ => by simp
  | row :: rows, h => by
    rw [List.flatten_cons, List.length_append, flatten_length rows (fun i r hr => h (i + 1) r (by simpa using hr)), h 0 row rfl, List.length_cons, Nat.succ_mul]
    omega

theorem flatten_get {sz : Nat} : ∀ (rows : List (List PV)) (i j : Nat), (∀ (i : Nat) (row : List PV), rows[i]? = some row → row.length = sz) → ∀ row, rows[i]? = some row → j < sz → rows.flatten[i * sz + j]? = row[j]?
  | [], i, j, _, row, h, _ => by simp at h
  | r :: rows, 0, j, hl, row, h, hj => by
    simp at h
    subst h
    rw [List.flatten_cons, Nat.zero_mul, Nat.zero_add, List.getElem?_append_left (by rw [hl 0 r rfl]; exact hj)]
  | r :: rows, i + 1, j, hl, row, h, hj => by
    have hr := hl 0 r rfl
    rw [List.flatten_cons, List.getElem?_append_right (by rw [hr, Nat.succ_mul]; omega), hr, Nat.succ_mul, show i * sz + sz + j - sz = i * sz + j by omega]
    exact flatten_get rows i j (fun i row h => hl (i + 1) row (by simpa using h)) row (by simpa using h) hj

theorem set_len {sz : Nat} {rows : List (List PV)} (h : ∀ (i : Nat) (row : List PV), rows[i]? = some row → row.length = sz) {k : Nat} {cs : List PV} (hc : cs.length = sz) : ∀ (i : Nat) (row : List PV), (rows.set k cs)[i]? = some row → row.length = sz := by
  intro i row hr
  rw [List.getElem?_set] at hr
  split at hr
  · split at hr
    · cases hr; exact hc
    · cases hr
  · exact h i row hr

theorem flatten_set {sz : Nat} : ∀ (rows : List (List PV)) (i : Nat) (cs : List PV), (∀ (i : Nat) (row : List PV), rows[i]? = some row → row.length = sz) → cs.length = sz → i < rows.length → (rows.set i cs).flatten = rows.flatten.take (i * sz) ++ cs ++ rows.flatten.drop (i * sz + sz)
  | [], i, cs, _, _, h => by simp at h
  | r :: rows, 0, cs, hl, hc, _ => by
    have hr := hl 0 r rfl
    simp only [List.set_cons_zero, List.flatten_cons, Nat.zero_mul, List.take_zero, List.nil_append, Nat.zero_add]
    rw [List.drop_append, ← hr]
    simp
  | r :: rows, i + 1, cs, hl, hc, h => by
    have hr := hl 0 r rfl
    simp only [List.set_cons_succ, List.flatten_cons]
    rw [flatten_set rows i cs (fun i row h => hl (i + 1) row (by simpa using h)) hc (by simpa using h), List.take_append, List.drop_append, hr, Nat.succ_mul]
    rw [List.take_of_length_le (l := r) (by omega), show r.drop (i * sz + sz + sz) = [] from List.drop_eq_nil_of_le (by omega), show i * sz + sz - sz = i * sz by omega, show i * sz + sz + sz - sz = i * sz + sz by omega]
    simp

theorem fillRows_flat {sz : Nat} : ∀ (ps : List (Nat × PV)) (rows out : List (List PV)), (∀ (i : Nat) (row : List PV), rows[i]? = some row → row.length = sz) → fillRows sz rows ps = some out →
    fillPV (fun i => some (i * sz, sz)) rows.flatten ps = some out.flatten ∧ (∀ (i : Nat) (row : List PV), out[i]? = some row → row.length = sz) ∧ out.length = rows.length
  | [], rows, out, hl, h => by cases h; exact ⟨rfl, hl, rfl⟩
  | (i, x) :: ps, rows, out, hl, h => by
    simp only [fillRows] at h
    split at h
    · rename_i cs hc
      split at h
      · rename_i hh
        obtain ⟨h1, h2, h3⟩ := fillRows_flat ps (rows.set i cs) out (set_len hl hh.1) h
        refine ⟨?_, h2, by rw [h3]; simp⟩
        simp only [fillPV, hc]
        have hle : i * sz + sz ≤ rows.flatten.length := by
          rw [flatten_length rows hl]
          have : (i + 1) * sz ≤ rows.length * sz := Nat.mul_le_mul_right _ hh.2
          rw [Nat.succ_mul] at this
          exact this
        rw [if_pos ⟨hh.1, hle⟩, ← h1, flatten_set rows i cs hl hh.1 hh.2]
      · cases h
    · cases h

theorem madeCells_rel {c : Cx} {z : Array Value} {zr : List PV} (h : RelCells c zr z) (n : Nat) (hpos : 0 < zr.length) : RelCells c (List.replicate n zr).flatten (madeCells z (n * zr.length)) := by
  have hlen : ∀ (i : Nat) (row : List PV), (List.replicate n zr)[i]? = some row → row.length = zr.length := by
    intro i row hr
    rw [List.getElem?_replicate] at hr
    split at hr
    · cases hr; rfl
    · cases hr
  have hget : ∀ (i : Nat) (v : Value), (madeCells z (n * zr.length))[i]? = some v → z[i % zr.length]? = some v ∧ i < n * zr.length := by
    intro i v hv
    have hi : i < n * zr.length := by have := (Array.getElem?_eq_some_iff.1 hv).1; rwa [size_madeCells] at this
    unfold madeCells at hv
    have hm : i % zr.length < z.size := by rw [h.1]; exact Nat.mod_lt _ hpos
    simp [hi, h.1] at hv
    refine ⟨?_, hi⟩
    rw [Array.getElem?_eq_getElem hm]
    rw [← hv]
    simp [hm]
  refine ⟨by rw [size_madeCells, flatten_length _ hlen, List.length_replicate], fun i v hv => h.2.1 _ _ (hget i v hv).1, fun i x v hx hv => ?_⟩
  obtain ⟨h1, h2⟩ := hget i v hv
  refine h.2.2 _ x v ?_ h1
  have hdm : i / zr.length * zr.length + i % zr.length = i := by have := Nat.div_add_mod i zr.length; rw [Nat.mul_comm] at this; exact this
  have hd : i / zr.length < n := Nat.div_lt_of_lt_mul (by rw [Nat.mul_comm]; exact h2)
  have := flatten_get (sz := zr.length) (List.replicate n zr) (i / zr.length) (i % zr.length) hlen zr (by rw [List.getElem?_replicate, if_pos hd]) (Nat.mod_lt _ hpos)
  rw [hdm, hx] at this
  exact this.symm

theorem rowsIn_flat {c : Cx} {sz : Nat} {rows : List (List PV)} {vs : Array Value} (hl : ∀ (i : Nat) (row : List PV), rows[i]? = some row → row.length = sz) (h : RelCells c rows.flatten vs) : RowsIn c sz rows 0 vs := by
  intro i row j x hr hx
  have hj : j < sz := by rw [← hl i row hr]; exact (List.getElem?_eq_some_iff.1 hx).1
  have hg := flatten_get rows i j hl row hr hj
  rw [hx] at hg
  have hlt : i * sz + j < vs.size := by rw [h.1]; exact (List.getElem?_eq_some_iff.1 hg).1
  have hv := Array.getElem?_eq_getElem hlt
  exact ⟨_, by rw [Nat.zero_add]; exact hv, h.2.1 _ _ hv, h.2.2 _ _ _ hg hv⟩

/-- A new block of rows, and the slice of all of it. -/
theorem newRows {c : Cx} (hi : Inv c) {sz : Nat} {rows : List (List PV)} {vs : Array Value} (e : TypeId) (hl : ∀ (i : Nat) (row : List PV), rows[i]? = some row → row.length = sz) (h : RelCells c rows.flatten vs) (cap : Nat) (hcap : cap * sz ≤ vs.size) (hc2 : rows.length ≤ cap) (hm : cap ≤ maxLen) :
    ∃ c', c'.w = c.w.alloc (.cells vs e) ∧ c'.S = c.S ++ [⟨c.N, true, sz, rows⟩] ∧ Inv c' ∧ Step c c' ∧ RelV c' (.vw c.S.length c.N 0 rows.length) (.slice (some ⟨c.w.heap.size, 0, none⟩) rows.length cap) := by
  obtain ⟨h1, h2⟩ := pushBlk hi (c.w.alloc (.cells vs e)) ⟨c.N, true, sz, rows⟩ (some (c.w.heap.size, 0)) rfl rfl rfl (by simp) (fun b hb => heap_alloc_old c.w _ b hb) rfl hl (fun h => by cases h)
    (fun q hq => by
      cases hq
      refine ⟨Nat.le_refl _, vs, e, (0, 0), heap_alloc_new c.w _, ?_, rowsIn_flat hl h, fun _ => .inl rfl⟩
      simp only [Nat.zero_add]
      exact Nat.le_trans (Nat.mul_le_mul_right _ hc2) hcap)
  refine ⟨_, rfl, rfl, h1, h2, .vw _ _ _ _ _ ⟨_, _, rfl⟩ (Nat.lt_succ_self _) (fun blk hb _ => ?_)⟩
  simp at hb
  subst hb
  exact ⟨by simp, some ⟨c.w.heap.size, 0, none⟩, cap, rfl, hc2, hm, .inl ⟨(c.w.heap.size, 0), by simp, by simp, vs, e, (0, 0), heap_alloc_new c.w _, by simpa using hcap⟩⟩

theorem pop_lit {P : Program} {σ : PS} {o : Oper} {K : PV → List Blk → Prop} {t e : TypeId} {len : Nat} {parts : Array (Nat × Operand)} {zr : List PV} {rows : List (List PV)} (ho : o.op = .buildSlice t len parts) (ht : P.underlying t = some (.slice e)) (hz : zeroRow P e = some zr) (hk : known P e = true) (hsz : P.cellsOf e = zr.length) (hpos : 0 < zr.length)
    (hb : len * zr.length ≤ 16777216) (hf : fillRows zr.length (List.replicate len zr) (parts.toList.map fun p => (p.1, σ.get p.2)) = some rows) (hK : ∀ g, K (.vw σ.S.length g 0 len) (σ.S ++ [⟨g, true, zr.length, rows⟩])) : PopSem P σ o K :=
  pop_of_run fun c a r => by
    obtain ⟨z, h1, h2, _⟩ := zeroRow_run hz c
    obtain ⟨d, hd⟩ := Option.isSome_iff_exists.1 hk
    have hrl : ∀ (i : Nat) (row : List PV), (List.replicate len zr)[i]? = some row → row.length = zr.length := by
      intro i row hr
      rw [List.getElem?_replicate] at hr
      split at hr
      · cases hr; rfl
      · cases hr
    obtain ⟨f1, f2, f3⟩ := fillRows_flat _ _ _ hrl hf
    rw [List.length_replicate] at f3
    have hzc : (if len * zr.length = 0 then #[] else z.cells).size = (if len * zr.length = 0 then 0 else zr.length) := by split <;> simp [h2.1]
    obtain ⟨out, g1, g2⟩ := fillPV_rel (c := c) (place := fun i => some (i * zr.length, zr.length)) (parts.toList.map fun p => (p.1, σ.get p.2)) (parts.toList.map fun p => (p.1, a.eval p.2)) _ (madeCells z.cells (len * zr.length)) _ f1 (madeCells_rel h2 len hpos) (by simp) (fun j p v hp hv => by
      rw [List.getElem?_map] at hp hv
      obtain ⟨q, hq, rfl⟩ := Option.map_eq_some_iff.1 hp
      rw [hq] at hv
      cases hv
      exact ⟨rfl, r.get q.2⟩)
    have hos : out.size = len * zr.length := by rw [g2.1, flatten_length rows f2, f3]
    have hbig : len ≤ maxLen := by
      have : len * 1 ≤ len * zr.length := Nat.mul_le_mul_left _ hpos
      simp only [maxLen]
      omega
    obtain ⟨c', e1, e2, e3, e4, e5⟩ := newRows r.inv e f2 g2 len (by rw [hos]; exact Nat.le_refl _) (by omega) hbig
    refine ⟨.vw c.S.length c.N 0 len, c', .slice (some ⟨c.w.heap.size, 0, none⟩) len len, ?_, by rw [e2, r.S]; exact hK _, e3, e4, by rw [f3] at e5; exact e5⟩
    simp only [execOp, ho]
    refine mk_run ?_
    unfold Instr.buildSlice
    have hnb : ¬ len * zr.length > 2 ^ 24 := by omega
    simp only [Sem.run_bind, run_underlying ht, Result.andThen_ok, sizeOf_run hd, hsz]
    rw [if_neg hnb]
    have hcells : ((Array.range (len * zr.length)).map (fun x => (if len * zr.length = 0 then #[] else z.cells)[x % (if len * zr.length = 0 then #[] else z.cells).size]!)) = madeCells z.cells (len * zr.length) := by
      unfold madeCells
      split
      · rename_i h0; rw [h0]; simp
      · rfl
    have hparts : parts.map (fun (x : Nat × Operand) => (x.1, a.eval x.2)) = (parts.toList.map fun p => (p.1, a.eval p.2)).toArray := by
      apply Array.ext'
      simp
    by_cases h0 : len * zr.length = 0
    · rw [if_pos h0] at hcells ⊢
      simp only [Sem.run_bind, Sem.run_pure, Result.andThen_ok]
      have : Instr.fill (fun i => some (i * zr.length, zr.length)) ((Array.range (len * zr.length)).map (fun x => (#[] : Array Value)[x % (#[] : Array Value).size]!)) (parts.map (fun (x : Nat × Operand) => (x.1, a.eval x.2))).toList = some out := by
        rw [hcells, hparts]; exact g1
      rw [this]
      simp only [newRow, Sem.run_bind, run_newObj, Result.andThen_ok, Sem.run_pure, e1]
      rfl
    · rw [if_neg h0] at hcells ⊢
      simp only [Sem.run_bind, Sem.run_pure, Result.andThen_ok, h1]
      have : Instr.fill (fun i => some (i * zr.length, zr.length)) ((Array.range (len * zr.length)).map (fun x => z.cells[x % z.cells.size]!)) (parts.map (fun (x : Nat × Operand) => (x.1, a.eval x.2))).toList = some out := by
        rw [hcells, hparts]; exact g1
      rw [this]
      simp only [newRow, Sem.run_bind, run_newObj, Result.andThen_ok, Sem.run_pure, e1]
      rfl

theorem pop_make {P : Program} {σ : PS} {o : Oper} {K : PV → List Blk → Prop} {t e : TypeId} {x y : Operand} {zr : List PV} {k1 k2 : IntKind} {m : Nat} {l : Int} (ho : o.op = .makeSlice t x y) (ht : P.underlying t = some (.slice e)) (hz : zeroRow P e = some zr) (hsz : P.cellsOf e = zr.length) (hpos : 0 < zr.length)
    (hx : σ.get x = .v (.int k1 l)) (hy : σ.get y = .v (.int k2 l)) (hl : l = m) (hb : P.bytesOf e * m ≤ 281474976710656) (hm : m ≤ maxLen) (hK : ∀ g, K (.vw σ.S.length g 0 m) (σ.S ++ [⟨g, true, zr.length, List.replicate m zr⟩])) : PopSem P σ o K :=
  pop_of_run fun c a r => by
    obtain ⟨z, h1, h2, i, hi, hzi⟩ := zeroRow_run hz c
    have hsz' : i.size = zr.length := by rw [← hsz]; simp [Program.cellsOf, hi]
    have hbi : i.bytes = P.bytesOf e := by simp [Program.bytesOf, hi]
    subst hl
    have g1 := r.get x
    have g2 := r.get y
    rw [hx] at g1
    rw [hy] at g2
    generalize hv1 : a.eval x = v1 at g1
    generalize hv2 : a.eval y = v2 at g2
    cases g1
    cases g2
    have hb' : (i.bytes : Int) * (m : Int) ≤ 281474976710656 := by
      rw [hbi, ← Int.natCast_mul]
      omega
    have hrun := run_make (P := P) c.w t e i z ht hi hzi k1 k2 (m : Int) (m : Int) (by omega) (Int.le_refl _) hb' (by simp only [maxLen] at hm; omega)
    simp only [Int.toNat_natCast, hsz'] at hrun
    have hrl : ∀ (j : Nat) (row : List PV), (List.replicate m zr)[j]? = some row → row.length = zr.length := by
      intro j row hr
      rw [List.getElem?_replicate] at hr
      split at hr
      · cases hr; rfl
      · cases hr
    obtain ⟨c', e1, e2, e3, e4, e5⟩ := newRows r.inv e hrl (madeCells_rel h2 m hpos) m (by rw [size_madeCells]; exact Nat.le_refl _) (by simp) hm
    rw [List.length_replicate] at e5
    refine ⟨_, c', _, ?_, by rw [e2, r.S]; exact hK _, e3, e4, e5⟩
    simp only [execOp, ho, hv1, hv2]
    rw [e1]
    exact mk_run hrun

section
variable {P : Program} {ops : List Oper} {Q : PS → Prop} {rest : List Oper} {n : Nat} {tm : List (Nat × PV)} {S S' : List Blk} {d : Tmp} {ty : TypeId} {pos : String} {af : Array Edge} {t e : TypeId} {x y : Operand}

theorem ps_lit {len τ sz : Nat} {parts : Array (Nat × Operand)} {ps : List (Nat × PV)} {zr : List PV} {bb : Bool} {rows : List (List PV)} {S' : Nat → List Blk} [ht : Und P t (.slice e)] [hz : Zer P e zr] [hk : AggT P e bb] [hc : Cel P e sz] (k : ∀ g, Pops P ops Q rest ⟨n, (d, .vw τ g 0 len) :: tm, S' g⟩)
    (hp : (parts.toList.map fun p => (p.1, PS.get ⟨n, tm, S⟩ p.2)) = ps := by first | (simp only [List.map_cons, List.map_nil, PS.get, look, ofValue, ↓reduceIte, Nat.reduceEqDiff, reduceCtorEq]; exact rfl) | rfl) (hf : fillRows sz (List.replicate len zr) ps = some rows := by first | (simp only [List.replicate_succ, List.replicate_zero, fillRows, cellsPV, Value.oneCell', List.length_cons, List.length_nil, List.set_cons_zero, List.set_cons_succ, Nat.reduceAdd, Nat.zero_add, Nat.reduceLT, Nat.lt_add_one, and_self, if_true, ↓reduceIte]; exact rfl) | exact rfl) (hsz : sz = zr.length := by rfl) (hpos : 0 < sz := by decide) (hb : len * sz ≤ 16777216 := by decide) (hτ : S.length = τ := by first | (simp only [List.length_cons, List.length_nil, Nat.reduceAdd, Nat.zero_add]; exact rfl) | exact rfl) (hS : ∀ g, S ++ [⟨g, true, sz, rows⟩] = S' g := by intro g_; first | (simp only [List.cons_append, List.nil_append]; exact rfl) | exact rfl) :
    Pops P ops Q (⟨some d, .buildSlice t len parts, ty, pos, af, none⟩ :: rest) ⟨n, tm, S⟩ := by
  subst hp hτ hsz
  exact pops_one rfl (pop_lit rfl ht.h hz.h hk.h.2 hc.h hpos hb hf fun g => by rw [hS g]; exact k g)

theorem ps_make {τ sz by_ : Nat} {zr : List PV} {k1 k2 : IntKind} {l : Int} {rows : List (List PV)} {S' : Nat → List Blk} [ht : Und P t (.slice e)] [hz : Zer P e zr] [hc : Cel P e sz] [hby : Byt P e by_] (m : Nat) (k : ∀ g, Pops P ops Q rest ⟨n, (d, .vw τ g 0 m) :: tm, S' g⟩) (hl : l = (m : Int)) 
    (hx : PS.get ⟨n, tm, S⟩ x = .v (.int k1 l) := by ((conv => lhs; whnf) <;> fail "no")) (hy : PS.get ⟨n, tm, S⟩ y = .v (.int k2 l) := by ((conv => lhs; whnf) <;> fail "no")) (hsz : sz = zr.length := by rfl) (hpos : 0 < sz := by decide) (hb : by_ * m ≤ 281474976710656 := by omega) (hm : m ≤ maxLen := by (simp only [maxLen]; omega)) (hr : List.replicate m zr = rows := by rfl) (hτ : S.length = τ := by first | (simp only [List.length_cons, List.length_nil, Nat.reduceAdd, Nat.zero_add]; exact rfl) | exact rfl) (hS : ∀ g, S ++ [⟨g, true, sz, rows⟩] = S' g := by intro g_; first | (simp only [List.cons_append, List.nil_append]; exact rfl) | exact rfl) :
    Pops P ops Q (⟨some d, .makeSlice t x y, ty, pos, af, none⟩ :: rest) ⟨n, tm, S⟩ := by
  subst hτ hsz hr
  exact pops_one rfl (pop_make rfl ht.h hz.h hc.h hpos hx hy hl (by rw [hby.h]; exact hb) hm fun g => by rw [hS g]; exact k g)
end
end Go.Proofs.YtenoecffjfcifaaDoor.Pv

-- Twentieth text: loops by what they change; what is pure, found by itself.
namespace Go.Proofs.YtenoecffjfcifaaDoor.Pv
set_option linter.all false
open Go.RowKit
set_option linter.unusedVariables false

class PureC (x : PV) : Prop where
  h : x.Pure
class PureL (xs : List PV) : Prop where
  h : ∀ x ∈ xs, x.Pure
instance (x : Value) : PureC (.v x) := ⟨.v x⟩
instance (k : IntKind) (l : List Int) (sz : Nat) (f : Bool) : PureC (.ro sz f (ints k l)) := ⟨ints_pure k l sz f⟩
instance : PureL [] := ⟨fun x h => by cases h⟩
instance (x : PV) (xs : List PV) [a : PureC x] [b : PureL xs] : PureL (x :: xs) := ⟨fun y h => by
  rcases List.mem_cons.1 h with rfl | h
  · exact a.h
  · exact b.h y h⟩
instance (cs : List PV) [a : PureL cs] : PureC (.agg cs) := ⟨.agg a.h⟩
instance (es : List (ByteArray × Int)) : PureC (.rmp es) := ⟨.rmp⟩
instance (cs : List PV) [a : PureL cs] : PureC (.tup cs) := ⟨.tup a.h⟩

theorem pcall_mk {P : Program} {f : FuncId} {fn : Func} {code : Code} {args : List PV} {r : PV} [hp : PureL args] [hr' : PureC r] (hf : P.funcs[f]? = some fn) (hb : fn.body = some code) (rs : List ResultVar) (hr : fn.results = rs.toArray) (n : Nat) (hn : args.length + (fn.ntmps - args.length) = n)
    (h : Tr P code ⟨n, argTm 0 args, []⟩ (Ends P rs fun x _ => x = r)) : PCall P f args r := pcall_of_tr hf hb rs hr n hn hp.h hr'.h h

/-- What a walk must know of slots. -/
inductive Has (tm : List (Nat × PV)) : List (Nat × PV) → Prop
  | nil : Has tm []
  | cons {t : Nat} {x : PV} {l : List (Nat × PV)} (h : look t tm = x) (k : Has tm l) : Has tm ((t, x) :: l)
theorem Has.all {tm l : List (Nat × PV)} (h : Has tm l) : ∀ p ∈ l, look p.1 tm = p.2 := by
  induction h with
  | nil => intro p hp; cases hp
  | cons h k ih =>
    intro p hp
    rcases List.mem_cons.1 hp with rfl | hp
    · exact h
    · exact ih p hp
theorem int_eq {k : IntKind} {a b : Int} (h : a = b) : PV.v (.int k a) = PV.v (.int k b) := by rw [h]
theorem vw_eq {τ g o a b : Nat} (h : a = b) : PV.vw τ g o a = PV.vw τ g o b := by rw [h]
theorem has1 {tm l : List (Nat × PV)} {t : Nat} {x : PV} (k : Has tm l) (h : look t tm = x := by ((conv => lhs; whnf) <;> first | exact int_eq (by omega) | exact vw_eq (by omega) | exact vw_eq (by (simp only [List.length_append, List.length_singleton, List.length_cons, List.length_nil]) <;> omega) | rfl | fail "no")) : Has tm ((t, x) :: l) := .cons h k

def Holds (σ : PS) (n : Nat) (T : List (Nat × PV)) (S : List Blk) : Prop := σ.n = n ∧ Has σ.tm T ∧ ∃ k, σ.S.take k = S
theorem holds {n : Nat} {tm T : List (Nat × PV)} {S S' : List Blk} (k : Nat) (h : Has tm T) (hS : S.take k = S' := by rfl) : Holds ⟨n, tm, S⟩ n T S' := ⟨rfl, h, k, hS⟩

/-- A loop: what it changes is told by a. -/
theorem tr_while {P : Program} {body : Code} {n : Nat} {tm : List (Nat × PV)} {S0 : List Blk} {Q : Exit → PS → Prop} {α : Type} (T : α → List (Nat × PV)) (S : α → List Blk) (V : α → Prop) (μ : α → Nat) (a0 : α) (h0 : V a0) (hh : Holds ⟨n, tm, S0⟩ n (T a0) (S a0))
    (round : ∀ a, V a → Tr P body ⟨n, T a, S a⟩ (behind (fun σ' => ∃ a', V a' ∧ μ a' < μ a ∧ Holds σ' n (T a') (S a')) Q)) : Tr P (.loop body) ⟨n, tm, S0⟩ Q := by
  refine tr_loop (fun m σ => ∃ a, V a ∧ μ a = m ∧ Holds σ n (T a) (S a)) (μ a0) ⟨a0, h0, rfl, hh⟩ ?_
  rintro m ⟨n', tm', S'⟩ ⟨a, hv, rfl, h1, h2, k, h3⟩
  simp only at h1 h2 h3
  subst h1
  refine forget (T a) k h2.all h3 ((round a hv).mono ?_)
  intro e σ' h
  cases e with
  | normal => obtain ⟨a', g1, g2, g3⟩ := h; exact ⟨μ a', g2, a', g1, rfl, g3⟩
  | exit id => exact h
  | goto l => exact h
  | ret => exact h
  | panic ch => exact h
  | outgrown => exact h

/-- Where ways meet again: what is known behind. -/
theorem tr_cut {P : Program} {x y : Code} {n : Nat} {tm : List (Nat × PV)} {S : List Blk} {Q : Exit → PS → Prop} (T : List (Nat × PV)) (S' : List Blk) (hx : Tr P x ⟨n, tm, S⟩ (behind (fun σ' => Holds σ' n T S') Q)) (hy : Tr P y ⟨n, T, S'⟩ Q) : Tr P (.seq x y) ⟨n, tm, S⟩ Q := by
  refine tr_seq fun K hK => hx.mono ?_
  intro e σ' h
  cases e with
  | normal =>
    obtain ⟨n', tm', S2⟩ := σ'
    obtain ⟨h1, h2, k, h3⟩ := h
    simp only at h1 h2 h3
    subst h1
    exact hK _ (forget T k h2.all h3 hy)
  | exit id => exact h
  | goto l => exact h
  | ret => exact h
  | panic ch => exact h
  | outgrown => exact h
end Go.Proofs.YtenoecffjfcifaaDoor.Pv

-- Twenty-first text: a law's parameters, read as pure values, whatever their types; and the law's end.
namespace Go.Proofs.YtenoecffjfcifaaDoor.Pv
set_option linter.all false
open Go.RowKit Go.WideShapes Go.ChangeShapes
set_option linter.unusedVariables false

def c0 (w : World) : Cx := ⟨w, fun _ => False, fun _ => none, [], 0⟩
theorem c0_notX (w : World) (b : Nat) : ¬ (c0 w).X b := by
  rintro (h | ⟨τ, blk, p, h, _⟩)
  · exact h
  · simp [c0] at h
theorem c0_inv (w : World) (hT : TabsOk w := by exact trivial) (hB : ∀ b ∈ tabB, ∃ o : Obj, w.heap[b]? = some o ∧ memObj o = true := by intro b hb; cases hb) : Inv (c0 w) :=
  ⟨fun τ blk h => by simp [c0] at h, fun τ blk p h => by simp [c0] at h, fun τ τ' b b' p p' h => by simp [c0] at h, fun b h => False.elim h, hT, fun b hb => ⟨hB b hb, fun ⟨τ, blk, p, h, _⟩ => by simp [c0] at h⟩⟩

structure CellRel (w : World) (x : PV) (v : Value) : Prop where
  pure : x.Pure
  one : v.oneCell' = true
  rel : RelV (c0 w) x v

def CellsRel (w : World) (xs : List PV) (cs : List Value) : Prop := xs.length = cs.length ∧ ∀ (i : Nat) (x : PV) (v : Value), xs[i]? = some x → cs[i]? = some v → CellRel w x v

/-- What a type's cells read as. -/
class OpT (P : Program) (t : TypeId) (S : outParam (List PV → Prop)) : Prop where
  h : ∀ {H : Type} {enc : TypeId × Value → H} {w : World} {spare : Nat → Bool} {held : Bool} {fuel : Nat} {cs : List Value} {x : DataW H × List MemPlace}, DataW.trod enc P w 0 spare held fuel t cs = some x →
    (DataW.weights P t x.1).all (· ≤ reachBytes) = true → ∃ xs : List PV, CellsRel w xs cs ∧ S xs

def SInt (k : IntKind) (xs : List PV) : Prop := ∃ n, xs = [.v (.int k n)] ∧ (Lit.int k n).wf = true
def SBool (xs : List PV) : Prop := ∃ b, xs = [.v (.bool b)]
def SStr (xs : List PV) : Prop := ∃ s : ByteArray, xs = [.v (.string s)] ∧ s.size ≤ 140737488351232
def SSl (sz B : Nat) (S : List PV → Prop) (xs : List PV) : Prop := ∃ rows : List (List PV), xs = [.ro sz false rows] ∧ rows.length * B ≤ 140737488351232 ∧ rows.length ≤ maxLen ∧ ∀ row ∈ rows, S row
def SArr (n : Nat) (S : List PV → Prop) (xs : List PV) : Prop := ∃ rows : List (List PV), xs = rows.flatten ∧ rows.length = n ∧ ∀ row ∈ rows, S row
def SFs : List (List PV → Prop) → List PV → Prop
  | [], xs => xs = []
  | S :: Ss, xs => ∃ p q, xs = p ++ q ∧ S p ∧ SFs Ss q

theorem cellsRel_one {w : World} {x : PV} {v : Value} (h : CellRel w x v) : CellsRel w [x] [v] := ⟨rfl, fun i y u h1 h2 => by
  cases i with
  | zero => simp at h1 h2; subst h1; subst h2; exact h
  | succ i => simp at h1⟩

instance (P : Program) (t : TypeId) (k : IntKind) [u : Und P t (.int k)] : OpT P t (SInt k) := ⟨fun h _ => by
  obtain ⟨n, rfl, rfl, hw⟩ := DataW.trod_int u.h h
  exact ⟨[.v (.int k n)], cellsRel_one ⟨.v _, rfl, .v _⟩, n, rfl, hw⟩⟩
instance (P : Program) (t : TypeId) [u : Und P t .bool] : OpT P t SBool := ⟨fun h _ => by
  obtain ⟨n, rfl, rfl⟩ := DataW.trod_bool u.h h
  exact ⟨[.v (.bool n)], cellsRel_one ⟨.v _, rfl, .v _⟩, n, rfl⟩⟩
instance (P : Program) (t : TypeId) [u : Und P t .string] : OpT P t SStr := ⟨fun h hs => by
  obtain ⟨n, rfl, rfl, hw⟩ := DataW.trod_string u.h h
  refine ⟨[.v (.string n)], cellsRel_one ⟨.v _, rfl, .v _⟩, n, rfl, ?_⟩
  simp only [DataW.weights, List.all_cons, List.all_nil, Bool.and_true, decide_eq_true_eq] at hs
  have : n.data.toList.length = n.size := by rw [Array.length_toList]; rfl
  unfold reachBytes at hs
  omega⟩

theorem weightsAll_mem {H : Type} {P : Program} {e : TypeId} {l : List (DataW H)} {d : DataW H} (hd : d ∈ l) (h : (DataW.weightsAll P e l).all (· ≤ reachBytes) = true) : (DataW.weights P e d).all (· ≤ reachBytes) = true := by
  induction l with
  | nil => cases hd
  | cons y l ih =>
    simp only [DataW.weightsAll, List.all_append, Bool.and_eq_true] at h
    cases hd with
    | head => exact h.1
    | tail _ hm => exact ih hm h.2

instance (P : Program) (t e : TypeId) (sz B : Nat) (S : List PV → Prop) [u : Und P t (.slice e)] [c : Cel P e sz] [b : Byt P e B] [o : OpT P e S] : OpT P t (SSl sz B S) := ⟨fun {H enc w spare held fuel cs x} h hs => by
  rcases Go.Deep.open_slice u.h h with ⟨rfl, rfl⟩ | ⟨a, len, cap, m, n, D, Pl, rfl, _, hl, hm, hmm, rfl, hx⟩
  · refine ⟨[.ro sz false []], cellsRel_one ⟨.ro (by simp), rfl, ?_⟩, [], rfl, by simp, by simp, by simp⟩
    exact .ro sz false [] none 0 (fun _ _ => .nilIface) (Nat.le_refl _) (by simp) (by simp) (by simp) (by simp) (by simp) (by simp) (by simp)
  simp only [DataW.weights, u.h, List.all_cons, List.all_append, Bool.and_eq_true, decide_eq_true_eq, List.length_map, List.length_range] at hs
  obtain ⟨h1, h2, _⟩ := hs
  have hlm : len ≤ m := by rw [hmm]; split <;> omega
  have each : ∀ i, i < len → ∃ q : List PV × List Value, w.cells? 0 (a.add (i * P.cellsOf e)) (P.cellsOf e) = some q.2 ∧ CellsRel w q.1 q.2 ∧ S q.1 := by
    intro i hi
    obtain ⟨cs', hcell, hy⟩ := hx i (by omega)
    obtain ⟨xs, hk, hv⟩ := o.h hy (weightsAll_mem (List.mem_map.2 ⟨i, List.mem_range.2 hi, rfl⟩) h2)
    exact ⟨(xs, cs'), hcell, hk, hv⟩
  obtain ⟨V, hV⟩ := Go.Deep.choose_lt each
  have hrow : ∀ (i : Nat) (row : List PV), ((List.range len).map fun i => (V i).1)[i]? = some row → i < len ∧ row = (V i).1 := by
    intro i row hr
    have hi : i < len := by
      rcases Nat.lt_or_ge i len with h | h
      · exact h
      · rw [List.getElem?_eq_none (by simpa using h)] at hr; cases hr
    refine ⟨hi, ?_⟩
    simp [hi] at hr
    exact hr.symm
  have cellAt : ∀ (i : Nat) (row : List PV) (j : Nat) (x : PV), ((List.range len).map fun i => (V i).1)[i]? = some row → row[j]? = some x → ∃ v, (V i).2[j]? = some v ∧ a.spot = none ∧ w.cell? ⟨a.block, a.off + (i * sz + j), none⟩ = some v ∧ CellRel w x v := by
    intro i row j x hr hj
    obtain ⟨hi, rfl⟩ := hrow i row hr
    obtain ⟨hc, hk, hS⟩ := hV i hi
    obtain ⟨_, hlen, hc'⟩ := World.cells?_some hc
    have hjl : j < (V i).2.length := by rw [← hk.1]; exact (List.getElem?_eq_some_iff.1 hj).1
    have hv := hc' j (by rw [← hlen]; exact hjl)
    rw [List.getElem?_eq_getElem hjl] at hv
    have hsp : a.spot = none := by
      obtain ⟨hc0, hk0, _⟩ := hV 0 (by omega)
      obtain ⟨_, hlen0, hc0'⟩ := World.cells?_some hc0
      have h0 := hc0' 0 (by omega)
      rw [List.getElem?_eq_getElem (by omega)] at h0
      have := World.cell?_spot h0
      simpa [Addr.add] using this
    refine ⟨_, List.getElem?_eq_getElem hjl, hsp, ?_, hk.2 j x _ hj (List.getElem?_eq_getElem hjl)⟩
    rw [← hv, ← c.h]
    obtain ⟨ab, ao, asv⟩ := a
    simp only at hsp
    subst hsp
    rw [add_plain, add_plain, Nat.add_assoc]
  refine ⟨[.ro sz false ((List.range len).map fun i => (V i).1)], cellsRel_one ⟨.ro ?_, rfl, ?_⟩, _, rfl, ?_, ?_, ?_⟩
  · intro row hr x hx'
    obtain ⟨i, hi⟩ := List.getElem?_of_mem hr
    obtain ⟨j, hj⟩ := List.getElem?_of_mem hx'
    obtain ⟨v, _, _, _, h5⟩ := cellAt i row j x hi hj
    exact h5.pure
  · have := RelV.ro (c := c0 w) sz false ((List.range len).map fun i => (V i).1) (some a) cap (fun i j => ((V i).2[j]?).getD .nilIface) (by simpa using hl) (by exact hm) (by simp) (by simp)
      (fun i row hr => by
        obtain ⟨hi, rfl⟩ := hrow i row hr
        obtain ⟨hc, hk, _⟩ := hV i hi
        rw [hk.1, (World.cells?_some hc).2.1, c.h])
      (fun ad ha i row j x hr hj => by
        cases ha
        obtain ⟨v, h3, h4, h5, h6⟩ := cellAt i row j x hr hj
        exact ⟨h4, c0_notX w _, by show w.cell? _ = _; rw [h5, h3]; rfl, by rw [h3]; exact h6.one⟩)
      (fun i row j x hr hj => (cellAt i row j x hr hj).choose_spec.2.2.2.pure)
      (fun i row j x hr hj => by
        obtain ⟨v, h3, h4, h5, h6⟩ := cellAt i row j x hr hj
        rw [h3]; exact h6.rel)
    simpa using this
  · simp only [List.length_map, List.length_range]
    unfold reachBytes at h1
    rw [b.h] at h1
    exact Nat.le_trans (Nat.mul_le_mul_right _ (Nat.le_add_right _ _)) h1
  · simp only [List.length_map, List.length_range]
    simp only [maxLen] at hm ⊢
    omega
  · intro row hr
    obtain ⟨i, hi, rfl⟩ := List.mem_map.1 hr
    exact (hV i (List.mem_range.1 hi)).2.2⟩

/-! structs and arrays -/
class OpFs (P : Program) (ts : List TypeId) (Ss : outParam (List (List PV → Prop))) : Prop where
  h : ∀ {H : Type} {enc : TypeId × Value → H} {w : World} {spare : Nat → Bool} {held : Bool} {fuel : Nat} {cs : List Value} {xs : List (DataW H × List MemPlace)},
    xs.length = ts.length → cs.length = (ts.map P.cellsOf).sum → (∀ (i : Nat) (t : TypeId), ts[i]? = some t → DataW.trod enc P w 0 spare held fuel t ((cs.drop ((ts.take i).map P.cellsOf).sum).take (P.cellsOf t)) = xs[i]?) →
    (DataW.weightsEach P ts (xs.map (·.1))).all (· ≤ reachBytes) = true → ∃ ys : List PV, CellsRel w ys cs ∧ SFs Ss ys

theorem CellsRel.append {w : World} {a b : List PV} {c d : List Value} (h : CellsRel w a c) (k : CellsRel w b d) : CellsRel w (a ++ b) (c ++ d) := by
  refine ⟨by simp [h.1, k.1], fun i x v h1 h2 => ?_⟩
  rcases Nat.lt_or_ge i a.length with hi | hi
  · rw [List.getElem?_append_left hi] at h1
    rw [List.getElem?_append_left (by rw [← h.1]; exact hi)] at h2
    exact h.2 i x v h1 h2
  · rw [List.getElem?_append_right hi] at h1
    rw [List.getElem?_append_right (by rw [← h.1]; exact hi), ← h.1] at h2
    exact k.2 _ x v h1 h2

instance (P : Program) : OpFs P [] [] := ⟨fun {H enc w spare held fuel cs xs} h1 h2 _ _ => by
  obtain rfl : cs = [] := by simpa using h2
  exact ⟨[], ⟨rfl, fun i x v h => by simp at h⟩, rfl⟩⟩
instance (P : Program) (t : TypeId) (ts : List TypeId) (S : List PV → Prop) (Ss : List (List PV → Prop)) [o : OpT P t S] [os : OpFs P ts Ss] : OpFs P (t :: ts) (S :: Ss) := ⟨fun {H enc w spare held fuel cs xs} h1 h2 h3 h4 => by
  match xs, h1 with
  | x :: xs, h1 =>
    simp only [List.map_cons, DataW.weightsEach, List.all_append, Bool.and_eq_true] at h4
    have h30 := h3 0 t rfl
    simp only [List.take_zero, List.map_nil, List.sum_nil, List.drop_zero, List.getElem?_cons_zero] at h30
    obtain ⟨p, k1, k2⟩ := o.h h30 h4.1
    obtain ⟨q, k3, k4⟩ := os.h (fuel := fuel) (enc := enc) (w := w) (spare := spare) (held := held) (cs := cs.drop (P.cellsOf t)) (xs := xs) (by simpa using h1) (by simp at h2 ⊢; omega) (fun i u hu => by
      have := h3 (i + 1) u (by simpa using hu)
      simp only [List.take_succ_cons, List.map_cons, List.sum_cons, List.getElem?_cons_succ] at this
      rw [List.drop_drop]
      exact this) h4.2
    refine ⟨p ++ q, ?_, p, q, rfl, k2, k4⟩
    have := k1.append k3
    rwa [List.take_append_drop] at this⟩

def structB (P : Program) (t : TypeId) (ts : List TypeId) : Bool :=
  match P.underlying t with
  | some (.struct fs) => decide (fs.toList.map (·.type) = ts) && decide (fs.toList.map (·.offset) = (List.range ts.length).map fun i => ((ts.take i).map P.cellsOf).sum) && decide (P.cellsOf t = (ts.map P.cellsOf).sum)
  | _ => false
class StructT (P : Program) (t : TypeId) (ts : outParam (List TypeId)) : Prop where
  h : structB P t ts = true

instance (P : Program) (t : TypeId) (ts : List TypeId) (Ss : List (List PV → Prop)) [s : StructT P t ts] [o : OpFs P ts Ss] : OpT P t (SFs Ss) := ⟨fun {H enc w spare held fuel cs x} h hs => by
  have hb := s.h
  unfold structB at hb
  split at hb
  · rename_i fs hu
    simp only [Bool.and_eq_true, decide_eq_true_eq] at hb
    obtain ⟨⟨b1, b2⟩, b3⟩ := hb
    obtain ⟨xs, n, rfl, rfl, h1, h2, h3⟩ := DataW.trod_struct hu h
    simp only [DataW.weights, hu] at hs
    rw [b1] at hs
    have hlen : fs.size = ts.length := by rw [← b1]; simp
    refine o.h (fuel := n) (enc := enc) (w := w) (spare := spare) (held := held) (by rw [h2, hlen]) (by rw [h1, b3]) (fun i u hu' => ?_) hs
    have hi : i < ts.length := (List.getElem?_eq_some_iff.1 hu').1
    have hf : fs[i]? = some (fs[i]'(by omega)) := Array.getElem?_eq_getElem (by omega)
    have := h3 i _ hf
    have e1 : (fs[i]'(by omega)).type = u := by
      have h5 : (fs.toList.map (·.type))[i]? = some u := by rw [b1]; exact hu'
      simp only [List.getElem?_map, Array.getElem?_toList, hf, Option.map_some, Option.some.injEq] at h5
      exact h5
    have e2 : (fs[i]'(by omega)).offset = ((ts.take i).map P.cellsOf).sum := by
      have h5 : (fs.toList.map (·.offset))[i]? = some ((ts.take i).map P.cellsOf).sum := by rw [b2]; simp [hi]
      simp only [List.getElem?_map, Array.getElem?_toList, hf, Option.map_some, Option.some.injEq] at h5
      exact h5
    rw [e1, e2] at this
    exact this
  · cases hb⟩

theorem arr_cells {P : Program} {e : TypeId} {S : List PV → Prop} [o : OpT P e S] {H : Type} {enc : TypeId × Value → H} {w : World} {spare : Nat → Bool} {held : Bool} {fuel : Nat} : ∀ (n : Nat) (cs : List Value) (xs : List (DataW H × List MemPlace)),
    cs.length = n * P.cellsOf e → xs.length = n → (∀ i, i < n → DataW.trod enc P w 0 spare held fuel e ((cs.drop (i * P.cellsOf e)).take (P.cellsOf e)) = xs[i]?) → (DataW.weightsAll P e (xs.map (·.1))).all (· ≤ reachBytes) = true →
    ∃ rows : List (List PV), CellsRel w rows.flatten cs ∧ rows.length = n ∧ ∀ row ∈ rows, S row
  | 0, cs, xs, h1, h2, h3, h4 => by
    obtain rfl : cs = [] := by simpa using h1
    exact ⟨[], ⟨rfl, fun i x v h => by simp at h⟩, rfl, by simp⟩
  | n + 1, cs, x :: xs, h1, h2, h3, h4 => by
    simp only [List.map_cons, DataW.weightsAll, List.all_append, Bool.and_eq_true] at h4
    have h30 := h3 0 (by omega)
    simp only [Nat.zero_mul, List.drop_zero, List.getElem?_cons_zero] at h30
    obtain ⟨p, k1, k2⟩ := o.h h30 h4.1
    have h1' : cs.length = P.cellsOf e + n * P.cellsOf e := by rw [h1, Nat.succ_mul]; omega
    obtain ⟨rows, k3, k4, k5⟩ := arr_cells (fuel := fuel) (enc := enc) (w := w) (spare := spare) (held := held) n (cs.drop (P.cellsOf e)) xs (by rw [List.length_drop]; omega) (by simpa using h2) (fun i hi => by
      have := h3 (i + 1) (by omega)
      rw [List.drop_drop]
      rw [Nat.succ_mul, Nat.add_comm] at this
      simpa using this) h4.2
    refine ⟨p :: rows, ?_, by simp [k4], fun row hr => ?_⟩
    · have := k1.append k3
      rw [List.take_append_drop] at this
      simpa using this
    · rcases List.mem_cons.1 hr with rfl | hr
      · exact k2
      · exact k5 row hr

class CelA (P : Program) (t e : TypeId) (n : Nat) : Prop where
  h : P.cellsOf t = n * P.cellsOf e
instance (P : Program) (t e : TypeId) (n : Nat) (S : List PV → Prop) [u : Und P t (.array n e)] [c : CelA P t e n] [o : OpT P e S] : OpT P t (SArr n S) := ⟨fun {H enc w spare held fuel cs x} h hs => by
  obtain ⟨xs, m, rfl, rfl, h1, h2, h3⟩ := DataW.trod_array u.h h
  simp only [DataW.weights, u.h] at hs
  obtain ⟨rows, k1, k2, k3⟩ := arr_cells (fuel := m) (enc := enc) (w := w) (spare := spare) (held := held) n cs xs (by rw [h1, c.h]) h2 h3 hs
  exact ⟨_, k1, rows, rfl, k2, k3⟩⟩

/-! parameters -/
class ParT (P : Program) (t : TypeId) (S : outParam (PV → Prop)) : Prop where
  h : ∀ {H : Type} {enc : TypeId × Value → H} {w : World} {spare : Nat → Bool} {held : Bool} {base : Nat} {v : Value} {d : DataW H} {ps : List MemPlace}, Value.okWide P w .any base t v → DataW.Trod enc P w 0 spare held t v d ps →
    (DataW.weights P t d).all (· ≤ reachBytes) = true → ∃ x : PV, x.Pure ∧ RelV (c0 w) x v ∧ S x

theorem cells_of_okWide {P : Program} {w : World} {base : Nat} {t : TypeId} {v : Value} (ha : isAggT P t = false) (h : Value.okWide P w .any base t v) : v.cells.toList = [v] := by
  unfold isAggT at ha
  unfold Value.okWide at h
  split at h
  · simp_all
  · simp_all
  · cases v <;> first | rfl | (unfold Cell.okWide Cell.ok at h; split at h <;> simp_all)

instance parOne (P : Program) (t : TypeId) (S : List PV → Prop) [a : AggT P t false] [o : OpT P t S] : ParT P t (fun x => S [x]) := ⟨fun {H enc w spare held base v d ps} hv h hs => by
  obtain ⟨fuel, hf⟩ := h
  rw [cells_of_okWide a.h.1 hv] at hf
  obtain ⟨xs, hk, hS⟩ := o.h hf hs
  match xs, hk with
  | [x], hk =>
    have := hk.2 0 x v rfl rfl
    exact ⟨x, this.pure, this.rel, hS⟩
  | [], hk => cases hk.1
  | _ :: _ :: _, hk => cases hk.1⟩
instance parAgg (P : Program) (t : TypeId) (S : List PV → Prop) [a : AggT P t true] [o : OpT P t S] : ParT P t (fun x => ∃ xs, x = .agg xs ∧ S xs) := ⟨fun {H enc w spare held base v d ps} hv h hs => by
  obtain ⟨fuel, hf⟩ := h
  obtain ⟨cs, rfl⟩ : ∃ cs, v = .agg cs := by
    have ha := a.h.1
    unfold isAggT at ha
    unfold Value.okWide at hv
    split at hv
    · obtain ⟨cs, rfl, _⟩ := hv; exact ⟨cs, rfl⟩
    · obtain ⟨cs, rfl, _⟩ := hv; exact ⟨cs, rfl⟩
    · rename_i h1 h2
      split at ha
      · exact absurd (by assumption) (h1 _)
      · exact absurd (by assumption) (h2 _ _)
      · cases ha
  have hf' : DataW.trod enc P w 0 spare held fuel t cs.toList = some (d, ps) := hf
  obtain ⟨xs, hk, hS⟩ := o.h hf' hs
  refine ⟨.agg xs, .agg fun x hx => ?_, .agg xs cs (by rw [hk.1]; simp) (fun i v hv' => ?_) (fun i x v h1 h2 => (hk.2 i x v h1 (by simpa using h2)).rel), xs, rfl, hS⟩
  · obtain ⟨i, hi⟩ := List.getElem?_of_mem hx
    have hil : i < cs.toList.length := by rw [← hk.1]; exact (List.getElem?_eq_some_iff.1 hi).1
    exact (hk.2 i x _ hi (List.getElem?_eq_getElem hil)).pure
  · have hil : i < xs.length := by rw [hk.1]; simpa using (Array.getElem?_eq_some_iff.1 hv').1
    exact (hk.2 i _ v (List.getElem?_eq_getElem hil) (by simpa using hv')).one⟩

/-- What a call of pure values does, as a row asks it. -/
inductive RelAll (c : Cx) : List PV → List Value → Prop
  | nil : RelAll c [] []
  | cons {x : PV} {v : Value} {xs : List PV} {vs : List Value} (h : RelV c x v) (k : RelAll c xs vs) : RelAll c (x :: xs) (v :: vs)
theorem RelAll.get {c : Cx} {xs : List PV} {vs : List Value} (h : RelAll c xs vs) : vs.length = xs.length ∧ ∀ (i : Nat) (x : PV) (v : Value), xs[i]? = some x → vs[i]? = some v → RelV c x v := by
  induction h with
  | nil => exact ⟨rfl, fun i x v h => by simp at h⟩
  | cons h k ih =>
    refine ⟨by simp [ih.1], fun i x v h1 h2 => ?_⟩
    cases i with
    | zero => simp at h1 h2; subst h1; subst h2; exact h
    | succ i => exact ih.2 i x v (by simpa using h1) (by simpa using h2)

theorem law_end {P : Program} {f : FuncId} {args : List PV} {b : Bool} (h : PCall P f args (.v (.bool b))) (w : World) (vals : List Value) (hv : RelAll (c0 w) args vals) (hT : TabsOk w := by exact trivial) (hB : ∀ b ∈ tabB, ∃ o : Obj, w.heap[b]? = some o ∧ memObj o = true := by intro b hb; cases hb) :
    Calls P f vals.toArray w fun e w' => e = .returned (.bool b) ∧ Below w.heap.size w w' := by
  have hg := hv.get
  refine (h.2.2 (c0 w) vals.toArray (c0_inv w hT hB) rfl (by simpa using hg.1) (fun i x v h1 h2 => hg.2 i x v h1 (by simpa using h2))).mono ?_
  rintro e w' ⟨v, x, c', rfl, rfl, rfl, hi', hst, hr⟩
  cases hr
  exact ⟨rfl, hst.os, hst.tape, hst.output, hst.size, fun k hk => hst.blocks k hk (fun ⟨τ, blk, p, h1, _⟩ => by simp [c0] at h1)⟩

theorem weight_at {P : Program} {H : Type} {ts : List TypeId} {ds : List (DataW H)} (h : (DataW.weightsEach P ts ds).all (· ≤ reachBytes) = true) : ∀ {j : Nat} {t : TypeId} {d : DataW H}, ts[j]? = some t → ds[j]? = some d → (DataW.weights P t d).all (· ≤ reachBytes) = true := by
  induction ts generalizing ds with
  | nil => intro j t d ht _; simp at ht
  | cons u ts ih =>
    intro j t d ht hd
    cases ds with
    | nil => simp at hd
    | cons y ds =>
      simp only [DataW.weightsEach, List.all_append, Bool.and_eq_true] at h
      cases j with
      | zero =>
        obtain rfl : u = t := by simpa using ht
        obtain rfl : y = d := by simpa using hd
        exact h.1
      | succ j => exact ih h.2 (by simpa using ht) (by simpa using hd)

/-! what the shapes say of lists of whole numbers -/
theorem rows_ints {k : IntKind} : ∀ {rows : List (List PV)}, (∀ row ∈ rows, SInt k row) → ∃ l : List Int, rows = ints k l ∧ ∀ n ∈ l, (Lit.int k n).wf = true
  | [], _ => ⟨[], rfl, by simp⟩
  | r :: rows, h => by
    obtain ⟨n, h1, h2⟩ := h r (by simp)
    obtain ⟨l, h3, h4⟩ := rows_ints (rows := rows) fun row hr => h row (by simp [hr])
    refine ⟨n :: l, by rw [h1, h3]; rfl, fun m hm => ?_⟩
    rcases List.mem_cons.1 hm with rfl | hm
    · exact h2
    · exact h4 m hm
theorem sl_ints {k : IntKind} {sz B : Nat} {x : PV} (h : SSl sz B (SInt k) [x]) : ∃ l : List Int, x = .ro sz false (ints k l) ∧ l.length * B ≤ 140737488351232 ∧ ∀ n ∈ l, (Lit.int k n).wf = true := by
  obtain ⟨rows, h1, h2, h3, h4⟩ := h
  obtain ⟨l, rfl, h5⟩ := rows_ints h4
  rw [ints_length] at h2
  exact ⟨l, by simpa using h1, h2, h5⟩
theorem arr_ints {k : IntKind} {n : Nat} {xs : List PV} (h : SArr n (SInt k) xs) : ∃ l : List Int, xs = l.map (fun n => .v (.int k n)) ∧ l.length = n ∧ ∀ n ∈ l, (Lit.int k n).wf = true := by
  obtain ⟨rows, h1, h2, h4⟩ := h
  obtain ⟨l, rfl, h5⟩ := rows_ints h4
  rw [ints_length] at h2
  refine ⟨l, ?_, h2, h5⟩
  rw [h1]
  clear h1 h2 h4 h5
  induction l with
  | nil => rfl
  | cons a l ih => simp only [ints, List.map_cons, List.flatten_cons] at ih ⊢; rw [ih]; rfl
theorem one_int {k : IntKind} {x : PV} (h : SInt k [x]) : ∃ n, x = .v (.int k n) ∧ (Lit.int k n).wf = true := by
  obtain ⟨n, h1, h2⟩ := h
  exact ⟨n, by simpa using h1, h2⟩
theorem one_bool {x : PV} (h : SBool [x]) : ∃ b, x = .v (.bool b) := by
  obtain ⟨n, h1⟩ := h
  exact ⟨n, by simpa using h1⟩
end Go.Proofs.YtenoecffjfcifaaDoor.Pv

-- Twenty-second text: a walk through code, piece by piece, with what comes behind in a list.
namespace Go.Proofs.YtenoecffjfcifaaDoor.Pv
set_option linter.all false
open Go.RowKit
set_option linter.unusedVariables false
/-- Pieces of code, one behind the other. -/
def Tk (P : Program) : List Code → PS → (Exit → PS → Prop) → Prop
  | [], σ, Q => Q .normal σ
  | c :: l, σ, Q => Tr P c σ (behind (fun σ' => Tk P l σ' Q) Q)
theorem behind_mono {K K' : PS → Prop} {Q : Exit → PS → Prop} (h : ∀ σ, K σ → K' σ) {e : Exit} {σ : PS} (k : behind K Q e σ) : behind K' Q e σ := by
  cases e with
  | normal => exact h σ k
  | exit id => exact k
  | goto l => exact k
  | ret => exact k
  | panic ch => exact k
  | outgrown => exact k
theorem behind_same {Q : Exit → PS → Prop} {e : Exit} {σ : PS} (k : behind (Q .normal) Q e σ) : Q e σ := by
  cases e <;> exact k
theorem tk_start {P : Program} {c : Code} {σ : PS} {Q : Exit → PS → Prop} (h : Tk P [c] σ Q) : Tr P c σ Q := h.mono fun e σ' k => behind_same k
theorem kn {P : Program} {σ : PS} {Q : Exit → PS → Prop} (h : Q .normal σ) : Tk P [] σ Q := h
theorem ka {P : Program} {a b : Code} {l : List Code} {σ : PS} {Q : Exit → PS → Prop} (h : Tk P (a :: b :: l) σ Q) : Tk P (.seq a b :: l) σ Q := by
  refine tr_seq fun K hK => Tr.mono h ?_
  intro e σ' k
  cases e with
  | normal => exact hK σ' k
  | exit id => exact k
  | goto l => exact k
  | ret => exact k
  | panic ch => exact k
  | outgrown => exact k
theorem kr {P : Program} {id : Nat} {ops : Array Oper} {l : List Code} {σ : PS} {Q : Exit → PS → Prop} (σ' : PS) (n' : Nat) (k : Pops P ops.toList (fun σ' => Tk P l σ' Q) (lastN ops.toList n') σ') (hd : ops.toList.all (fun o => dstOk σ.n o && gOk ops.toList o) = true := by kernel_rfl)
    (he : EvR P (prs ops.toList ops.toList) σ σ' n' := by repeat (first | (refine is_c ?_; first | (refine is_u ?_; first | (refine is_mv ?_; refine es_mv ?_) | (refine is_as ?_; refine es_as ?_) | (refine is_bin ?_; first | (refine is_b_lss ?_; first | refine es_lt_t ?_ | refine es_lt_f ?_ | refine es_lt ?_) | (refine is_b_leq ?_; first | refine es_le_t ?_ | refine es_le_f ?_ | refine es_le ?_) | (refine is_b_gtr ?_; first | refine es_gt_t ?_ | refine es_gt_f ?_ | refine es_gt ?_) | (refine is_b_geq ?_; first | refine es_ge_t ?_ | refine es_ge_f ?_ | refine es_ge ?_) | (refine is_b_eql ?_; first | refine es_eq_t ?_ | refine es_eq_f ?_ | refine es_eq ?_ | refine es_seq_t ?_ | refine es_seq_f ?_ | refine es_seq ?_ | refine es_aeq_t ?_ | refine es_aeq ?_ | refine es_beq ?_ | refine es_eqn_ro ?_ | refine es_eqn_nil ?_ | refine es_eqp_ptr ?_ | refine es_eqp_nil ?_) | (refine is_b_neq ?_; first | refine es_ne_t ?_ | refine es_ne_f ?_ | refine es_ne ?_ | refine es_sne_t ?_ | refine es_sne_f ?_ | refine es_sne ?_ | refine es_ane_f ?_ | refine es_ane ?_ | refine es_bne ?_ | refine es_nen_ro ?_ | refine es_nen_nil ?_ | refine es_nep_ptr ?_ | refine es_nep_nil ?_) | (refine is_b_add ?_; first | refine es_add ?_ | refine es_sadd ?_) | (refine is_b_sub ?_; refine es_sub ?_) | (refine is_b_mul ?_; refine es_mul ?_) | (refine is_b_quo ?_; refine es_quo ?_) | (refine is_b_rem ?_; refine es_rem ?_) | (refine is_b_and ?_; first | refine es_andh ?_ | refine es_and ?_) | (refine is_b_or ?_; first | refine es_orh ?_ | refine es_or ?_) | (refine is_b_xor ?_; first | refine es_xorh ?_ | refine es_xor ?_) | (refine is_b_andNot ?_; first | refine es_andnh ?_ | refine es_andn ?_) | (refine is_b_shl ?_; refine es_shl ?_) | (refine is_b_shr ?_; refine es_shr ?_)) | (refine is_ld ?_; first | refine es_ld_rp ?_ | refine es_lda_rp ?_ | refine es_ld_ptr ?_ | refine es_lda_ptr ?_ | refine es_ld_ca ?_ | refine es_ld_ct ?_ | refine es_lda_row ?_) | (refine is_ixa ?_; first | refine es_ix_ro ?_ | refine es_ix_vw ?_ | refine es_ix_arr ?_ | refine es_ix_sub ?_) | (refine is_ix ?_; first | refine es_six ?_ | refine es_aixc ?_ | refine es_aix ?_) | (refine is_fa ?_; first | refine es_fa_ptr ?_ | refine es_fa_rp ?_) | (refine is_ext ?_; refine es_ext ?_) | (refine is_lk ?_; first | refine es_lk_r ?_ | refine es_lk_m ?_ | refine es_lo_r ?_ | refine es_lo_m ?_) | (refine is_pick ?_; first | refine es_pick_t ?_ | refine es_pick_f ?_ | refine es_pick ?_) | (refine is_call ?_; first | refine es_slen ?_ | refine es_len_ro ?_ | refine es_len_vw ?_ | refine es_len_nil ?_ | refine es_len_sub ?_ | refine es_len_str ?_ | refine es_min ?_ | refine es_max ?_ | refine es_len_m ?_) | (refine is_conv ?_; refine es_conv ?_) | (refine is_un ?_; first | refine es_not_t ?_ | refine es_not_f ?_ | refine es_not ?_ | refine es_neg ?_) | (refine is_fv ?_; first | refine es_fv ?_ | refine es_fva ?_) | (refine is_nil ?_; first | refine es_nil_ptr ?_ | refine es_nil_fn ?_) | (refine is_bld ?_; refine es_bld ?_) | (refine is_mf ?_; refine es_mf ?_) | (refine is_sl ?_; first | refine es_sl_arr ?_ | refine es_sl_h ?_ | refine es_sl_l ?_ | refine es_sl_b ?_ | refine es_ssl_h ?_ | refine es_ssl_l ?_ | refine es_ssl_b ?_ | refine es_vsl_h ?_ | refine es_vsl_l ?_ | refine es_vsl_b ?_ | refine es_vsl_3 ?_ | refine es_sl_3 ?_ | refine es_rsl_h ?_ | refine es_rsl_l ?_ | refine es_rsl_b ?_)) | (refine es_guard ?_; first | (refine is_mv ?_; refine es_mv ?_) | (refine is_as ?_; refine es_as ?_) | (refine is_bin ?_; first | (refine is_b_lss ?_; first | refine es_lt_t ?_ | refine es_lt_f ?_ | refine es_lt ?_) | (refine is_b_leq ?_; first | refine es_le_t ?_ | refine es_le_f ?_ | refine es_le ?_) | (refine is_b_gtr ?_; first | refine es_gt_t ?_ | refine es_gt_f ?_ | refine es_gt ?_) | (refine is_b_geq ?_; first | refine es_ge_t ?_ | refine es_ge_f ?_ | refine es_ge ?_) | (refine is_b_eql ?_; first | refine es_eq_t ?_ | refine es_eq_f ?_ | refine es_eq ?_ | refine es_seq_t ?_ | refine es_seq_f ?_ | refine es_seq ?_ | refine es_aeq_t ?_ | refine es_aeq ?_ | refine es_beq ?_ | refine es_eqn_ro ?_ | refine es_eqn_nil ?_ | refine es_eqp_ptr ?_ | refine es_eqp_nil ?_) | (refine is_b_neq ?_; first | refine es_ne_t ?_ | refine es_ne_f ?_ | refine es_ne ?_ | refine es_sne_t ?_ | refine es_sne_f ?_ | refine es_sne ?_ | refine es_ane_f ?_ | refine es_ane ?_ | refine es_bne ?_ | refine es_nen_ro ?_ | refine es_nen_nil ?_ | refine es_nep_ptr ?_ | refine es_nep_nil ?_) | (refine is_b_add ?_; first | refine es_add ?_ | refine es_sadd ?_) | (refine is_b_sub ?_; refine es_sub ?_) | (refine is_b_mul ?_; refine es_mul ?_) | (refine is_b_quo ?_; refine es_quo ?_) | (refine is_b_rem ?_; refine es_rem ?_) | (refine is_b_and ?_; first | refine es_andh ?_ | refine es_and ?_) | (refine is_b_or ?_; first | refine es_orh ?_ | refine es_or ?_) | (refine is_b_xor ?_; first | refine es_xorh ?_ | refine es_xor ?_) | (refine is_b_andNot ?_; first | refine es_andnh ?_ | refine es_andn ?_) | (refine is_b_shl ?_; refine es_shl ?_) | (refine is_b_shr ?_; refine es_shr ?_)) | (refine is_ld ?_; first | refine es_ld_rp ?_ | refine es_lda_rp ?_ | refine es_ld_ptr ?_ | refine es_lda_ptr ?_ | refine es_ld_ca ?_ | refine es_ld_ct ?_ | refine es_lda_row ?_) | (refine is_ixa ?_; first | refine es_ix_ro ?_ | refine es_ix_vw ?_ | refine es_ix_arr ?_ | refine es_ix_sub ?_) | (refine is_ix ?_; first | refine es_six ?_ | refine es_aixc ?_ | refine es_aix ?_) | (refine is_fa ?_; first | refine es_fa_ptr ?_ | refine es_fa_rp ?_) | (refine is_ext ?_; refine es_ext ?_) | (refine is_lk ?_; first | refine es_lk_r ?_ | refine es_lk_m ?_ | refine es_lo_r ?_ | refine es_lo_m ?_) | (refine is_pick ?_; first | refine es_pick_t ?_ | refine es_pick_f ?_ | refine es_pick ?_) | (refine is_call ?_; first | refine es_slen ?_ | refine es_len_ro ?_ | refine es_len_vw ?_ | refine es_len_nil ?_ | refine es_len_sub ?_ | refine es_len_str ?_ | refine es_min ?_ | refine es_max ?_ | refine es_len_m ?_) | (refine is_conv ?_; refine es_conv ?_) | (refine is_un ?_; first | refine es_not_t ?_ | refine es_not_f ?_ | refine es_not ?_ | refine es_neg ?_) | (refine is_fv ?_; first | refine es_fv ?_ | refine es_fva ?_) | (refine is_nil ?_; first | refine es_nil_ptr ?_ | refine es_nil_fn ?_) | (refine is_bld ?_; refine es_bld ?_) | (refine is_mf ?_; refine es_mf ?_) | (refine is_sl ?_; first | refine es_sl_arr ?_ | refine es_sl_h ?_ | refine es_sl_l ?_ | refine es_sl_b ?_ | refine es_ssl_h ?_ | refine es_ssl_l ?_ | refine es_ssl_b ?_ | refine es_vsl_h ?_ | refine es_vsl_l ?_ | refine es_vsl_b ?_ | refine es_vsl_3 ?_ | refine es_sl_3 ?_ | refine es_rsl_h ?_ | refine es_rsl_l ?_ | refine es_rsl_b ?_)) | refine es_skip ?_) | exact EvR.stop _ _)) : Tk P (.region id ops false :: l) σ Q := srl (Q := behind (fun σ' => Tk P l σ' Q) Q) σ' n' k hd he
theorem kd {P : Program} {id : Nat} {ops : Array Oper} {l : List Code} {σ : PS} {Q : Exit → PS → Prop} (σ' : PS) (n' : Nat) (k : PStL P ops.toList (fun σ' => Tk P l σ' Q) (lastN ops.toList n') σ') [hm : Mixed P] (hd : ops.toList.all (fun o => dstOk σ.n o && gOk ops.toList o) = true := by kernel_rfl) (hok : drawOk ops = true := by kernel_rfl)
    (he : EvR P (prs ops.toList ops.toList) σ σ' n' := by repeat (first | (refine is_c ?_; first | (refine is_u ?_; first | (refine is_mv ?_; refine es_mv ?_) | (refine is_as ?_; refine es_as ?_) | (refine is_bin ?_; first | (refine is_b_lss ?_; first | refine es_lt_t ?_ | refine es_lt_f ?_ | refine es_lt ?_) | (refine is_b_leq ?_; first | refine es_le_t ?_ | refine es_le_f ?_ | refine es_le ?_) | (refine is_b_gtr ?_; first | refine es_gt_t ?_ | refine es_gt_f ?_ | refine es_gt ?_) | (refine is_b_geq ?_; first | refine es_ge_t ?_ | refine es_ge_f ?_ | refine es_ge ?_) | (refine is_b_eql ?_; first | refine es_eq_t ?_ | refine es_eq_f ?_ | refine es_eq ?_ | refine es_seq_t ?_ | refine es_seq_f ?_ | refine es_seq ?_ | refine es_aeq_t ?_ | refine es_aeq ?_ | refine es_beq ?_ | refine es_eqn_ro ?_ | refine es_eqn_nil ?_ | refine es_eqp_ptr ?_ | refine es_eqp_nil ?_) | (refine is_b_neq ?_; first | refine es_ne_t ?_ | refine es_ne_f ?_ | refine es_ne ?_ | refine es_sne_t ?_ | refine es_sne_f ?_ | refine es_sne ?_ | refine es_ane_f ?_ | refine es_ane ?_ | refine es_bne ?_ | refine es_nen_ro ?_ | refine es_nen_nil ?_ | refine es_nep_ptr ?_ | refine es_nep_nil ?_) | (refine is_b_add ?_; first | refine es_add ?_ | refine es_sadd ?_) | (refine is_b_sub ?_; refine es_sub ?_) | (refine is_b_mul ?_; refine es_mul ?_) | (refine is_b_quo ?_; refine es_quo ?_) | (refine is_b_rem ?_; refine es_rem ?_) | (refine is_b_and ?_; first | refine es_andh ?_ | refine es_and ?_) | (refine is_b_or ?_; first | refine es_orh ?_ | refine es_or ?_) | (refine is_b_xor ?_; first | refine es_xorh ?_ | refine es_xor ?_) | (refine is_b_andNot ?_; first | refine es_andnh ?_ | refine es_andn ?_) | (refine is_b_shl ?_; refine es_shl ?_) | (refine is_b_shr ?_; refine es_shr ?_)) | (refine is_ld ?_; first | refine es_ld_rp ?_ | refine es_lda_rp ?_ | refine es_ld_ptr ?_ | refine es_lda_ptr ?_ | refine es_ld_ca ?_ | refine es_ld_ct ?_ | refine es_lda_row ?_) | (refine is_ixa ?_; first | refine es_ix_ro ?_ | refine es_ix_vw ?_ | refine es_ix_arr ?_ | refine es_ix_sub ?_) | (refine is_ix ?_; first | refine es_six ?_ | refine es_aixc ?_ | refine es_aix ?_) | (refine is_fa ?_; first | refine es_fa_ptr ?_ | refine es_fa_rp ?_) | (refine is_ext ?_; refine es_ext ?_) | (refine is_lk ?_; first | refine es_lk_r ?_ | refine es_lk_m ?_ | refine es_lo_r ?_ | refine es_lo_m ?_) | (refine is_pick ?_; first | refine es_pick_t ?_ | refine es_pick_f ?_ | refine es_pick ?_) | (refine is_call ?_; first | refine es_slen ?_ | refine es_len_ro ?_ | refine es_len_vw ?_ | refine es_len_nil ?_ | refine es_len_sub ?_ | refine es_len_str ?_ | refine es_min ?_ | refine es_max ?_ | refine es_len_m ?_) | (refine is_conv ?_; refine es_conv ?_) | (refine is_un ?_; first | refine es_not_t ?_ | refine es_not_f ?_ | refine es_not ?_ | refine es_neg ?_) | (refine is_fv ?_; first | refine es_fv ?_ | refine es_fva ?_) | (refine is_nil ?_; first | refine es_nil_ptr ?_ | refine es_nil_fn ?_) | (refine is_bld ?_; refine es_bld ?_) | (refine is_mf ?_; refine es_mf ?_) | (refine is_sl ?_; first | refine es_sl_arr ?_ | refine es_sl_h ?_ | refine es_sl_l ?_ | refine es_sl_b ?_ | refine es_ssl_h ?_ | refine es_ssl_l ?_ | refine es_ssl_b ?_ | refine es_vsl_h ?_ | refine es_vsl_l ?_ | refine es_vsl_b ?_ | refine es_vsl_3 ?_ | refine es_sl_3 ?_ | refine es_rsl_h ?_ | refine es_rsl_l ?_ | refine es_rsl_b ?_)) | (refine es_guard ?_; first | (refine is_mv ?_; refine es_mv ?_) | (refine is_as ?_; refine es_as ?_) | (refine is_bin ?_; first | (refine is_b_lss ?_; first | refine es_lt_t ?_ | refine es_lt_f ?_ | refine es_lt ?_) | (refine is_b_leq ?_; first | refine es_le_t ?_ | refine es_le_f ?_ | refine es_le ?_) | (refine is_b_gtr ?_; first | refine es_gt_t ?_ | refine es_gt_f ?_ | refine es_gt ?_) | (refine is_b_geq ?_; first | refine es_ge_t ?_ | refine es_ge_f ?_ | refine es_ge ?_) | (refine is_b_eql ?_; first | refine es_eq_t ?_ | refine es_eq_f ?_ | refine es_eq ?_ | refine es_seq_t ?_ | refine es_seq_f ?_ | refine es_seq ?_ | refine es_aeq_t ?_ | refine es_aeq ?_ | refine es_beq ?_ | refine es_eqn_ro ?_ | refine es_eqn_nil ?_ | refine es_eqp_ptr ?_ | refine es_eqp_nil ?_) | (refine is_b_neq ?_; first | refine es_ne_t ?_ | refine es_ne_f ?_ | refine es_ne ?_ | refine es_sne_t ?_ | refine es_sne_f ?_ | refine es_sne ?_ | refine es_ane_f ?_ | refine es_ane ?_ | refine es_bne ?_ | refine es_nen_ro ?_ | refine es_nen_nil ?_ | refine es_nep_ptr ?_ | refine es_nep_nil ?_) | (refine is_b_add ?_; first | refine es_add ?_ | refine es_sadd ?_) | (refine is_b_sub ?_; refine es_sub ?_) | (refine is_b_mul ?_; refine es_mul ?_) | (refine is_b_quo ?_; refine es_quo ?_) | (refine is_b_rem ?_; refine es_rem ?_) | (refine is_b_and ?_; first | refine es_andh ?_ | refine es_and ?_) | (refine is_b_or ?_; first | refine es_orh ?_ | refine es_or ?_) | (refine is_b_xor ?_; first | refine es_xorh ?_ | refine es_xor ?_) | (refine is_b_andNot ?_; first | refine es_andnh ?_ | refine es_andn ?_) | (refine is_b_shl ?_; refine es_shl ?_) | (refine is_b_shr ?_; refine es_shr ?_)) | (refine is_ld ?_; first | refine es_ld_rp ?_ | refine es_lda_rp ?_ | refine es_ld_ptr ?_ | refine es_lda_ptr ?_ | refine es_ld_ca ?_ | refine es_ld_ct ?_ | refine es_lda_row ?_) | (refine is_ixa ?_; first | refine es_ix_ro ?_ | refine es_ix_vw ?_ | refine es_ix_arr ?_ | refine es_ix_sub ?_) | (refine is_ix ?_; first | refine es_six ?_ | refine es_aixc ?_ | refine es_aix ?_) | (refine is_fa ?_; first | refine es_fa_ptr ?_ | refine es_fa_rp ?_) | (refine is_ext ?_; refine es_ext ?_) | (refine is_lk ?_; first | refine es_lk_r ?_ | refine es_lk_m ?_ | refine es_lo_r ?_ | refine es_lo_m ?_) | (refine is_pick ?_; first | refine es_pick_t ?_ | refine es_pick_f ?_ | refine es_pick ?_) | (refine is_call ?_; first | refine es_slen ?_ | refine es_len_ro ?_ | refine es_len_vw ?_ | refine es_len_nil ?_ | refine es_len_sub ?_ | refine es_len_str ?_ | refine es_min ?_ | refine es_max ?_ | refine es_len_m ?_) | (refine is_conv ?_; refine es_conv ?_) | (refine is_un ?_; first | refine es_not_t ?_ | refine es_not_f ?_ | refine es_not ?_ | refine es_neg ?_) | (refine is_fv ?_; first | refine es_fv ?_ | refine es_fva ?_) | (refine is_nil ?_; first | refine es_nil_ptr ?_ | refine es_nil_fn ?_) | (refine is_bld ?_; refine es_bld ?_) | (refine is_mf ?_; refine es_mf ?_) | (refine is_sl ?_; first | refine es_sl_arr ?_ | refine es_sl_h ?_ | refine es_sl_l ?_ | refine es_sl_b ?_ | refine es_ssl_h ?_ | refine es_ssl_l ?_ | refine es_ssl_b ?_ | refine es_vsl_h ?_ | refine es_vsl_l ?_ | refine es_vsl_b ?_ | refine es_vsl_3 ?_ | refine es_sl_3 ?_ | refine es_rsl_h ?_ | refine es_rsl_l ?_ | refine es_rsl_b ?_)) | refine es_skip ?_) | exact EvR.stop _ _)) : Tk P (.region id ops true :: l) σ Q := sdl (Q := behind (fun σ' => Tk P l σ' Q) Q) σ' n' k hd hok he
theorem bool_t {p : Prop} [Decidable p] (h : p) : PV.v (.bool (decide p)) = PV.v (.bool true) := by rw [decide_eq_true h]
theorem bool_f {p : Prop} [Decidable p] (h : ¬ p) : PV.v (.bool (decide p)) = PV.v (.bool false) := by rw [decide_eq_false h]
theorem kct {P : Program} {cnd : Operand} {x y : Code} {l : List Code} {n : Nat} {tm : List (Nat × PV)} {S : List Blk} {Q : Exit → PS → Prop} (h : Tk P (x :: l) ⟨n, tm, S⟩ Q) (hb : PS.get ⟨n, tm, S⟩ cnd = .v (.bool true) := by first | ((conv => lhs; whnf) <;> fail "no") | ((conv => lhs; whnf); exact bool_t (by first | omega | assumption))) : Tk P (.cond cnd x y :: l) ⟨n, tm, S⟩ Q := tr_cond hb (fun _ => h) (fun h => by cases h)
theorem kcf {P : Program} {cnd : Operand} {x y : Code} {l : List Code} {n : Nat} {tm : List (Nat × PV)} {S : List Blk} {Q : Exit → PS → Prop} (h : Tk P (y :: l) ⟨n, tm, S⟩ Q) (hb : PS.get ⟨n, tm, S⟩ cnd = .v (.bool false) := by first | ((conv => lhs; whnf) <;> fail "no") | ((conv => lhs; whnf); exact bool_f (by first | omega | assumption))) : Tk P (.cond cnd x y :: l) ⟨n, tm, S⟩ Q := tr_cond hb (fun h => by cases h) (fun _ => h)
theorem kcs {P : Program} {cnd : Operand} {x y : Code} {l : List Code} {n : Nat} {tm : List (Nat × PV)} {S : List Blk} {Q : Exit → PS → Prop} {b : Bool} (ht : b = true → Tk P (x :: l) ⟨n, tm, S⟩ Q) (hf : b = false → Tk P (y :: l) ⟨n, tm, S⟩ Q) (hb : PS.get ⟨n, tm, S⟩ cnd = .v (.bool b) := by ((conv => lhs; whnf) <;> fail "no")) : Tk P (.cond cnd x y :: l) ⟨n, tm, S⟩ Q := tr_cond hb ht hf
theorem ksk {P : Program} {l : List Code} {σ : PS} {Q : Exit → PS → Prop} (h : Tk P l σ Q) : Tk P (.skip :: l) σ Q := tr_skip h
theorem kx {P : Program} {id : Nat} {l : List Code} {σ : PS} {Q : Exit → PS → Prop} (h : Q (.exit id) σ) : Tk P (.exit id :: l) σ Q := tr_exit h
theorem kret {P : Program} {l : List Code} {σ : PS} {Q : Exit → PS → Prop} (h : Q .ret σ) : Tk P (.ret :: l) σ Q := tr_ret h
theorem klab {P : Program} {id : Nat} {l : List Code} {σ : PS} {Q : Exit → PS → Prop} (h : Tk P l σ Q) : Tk P (.label id :: l) σ Q := tr_label h
theorem kb {P : Program} {id : Nat} {body : Code} {l : List Code} {σ : PS} {Q : Exit → PS → Prop} (h : Tk P [body] σ (inBlk id (behind (fun σ' => Tk P l σ' Q) Q))) : Tk P (.block id body :: l) σ Q := tr_block (tk_start h)
theorem beh_n {K : PS → Prop} {Q : Exit → PS → Prop} {σ : PS} (h : K σ) : behind K Q .normal σ := h
theorem beh_x {K : PS → Prop} {Q : Exit → PS → Prop} {σ : PS} {id : Nat} (h : Q (.exit id) σ) : behind K Q (.exit id) σ := h
theorem beh_r {K : PS → Prop} {Q : Exit → PS → Prop} {σ : PS} (h : Q .ret σ) : behind K Q .ret σ := h
theorem blk_n {id : Nat} {Q : Exit → PS → Prop} {σ : PS} (h : Q .normal σ) : inBlk id Q .normal σ := h
theorem blk_r {id : Nat} {Q : Exit → PS → Prop} {σ : PS} (h : Q .ret σ) : inBlk id Q .ret σ := h
theorem blk_here {id : Nat} {Q : Exit → PS → Prop} {σ : PS} (h : Q .normal σ) : inBlk id Q (.exit id) σ := by simp only [inBlk, if_true]; exact h
theorem blk_up {id id' : Nat} {Q : Exit → PS → Prop} {σ : PS} (hne : (id == id') = false) (h : Q (.exit id) σ) : inBlk id' Q (.exit id) σ := by
  have : id ≠ id' := by simpa using hne
  simp only [inBlk, if_neg this]; exact h
theorem tk_mono {P : Program} {l : List Code} {σ : PS} {Q Q' : Exit → PS → Prop} (h : Tk P l σ Q) (hq : ∀ e σ, Q e σ → Q' e σ) : Tk P l σ Q' := by
  induction l generalizing σ with
  | nil => exact hq _ _ h
  | cons c l ih =>
    refine Tr.mono h ?_
    intro e σ' k
    cases e with
    | normal => exact ih k
    | exit id => exact hq _ _ k
    | goto l => exact hq _ _ k
    | ret => exact hq _ _ k
    | panic ch => exact hq _ _ k
    | outgrown => exact hq _ _ k
/-- Only so much is known from here on. -/
theorem kfor {P : Program} {l : List Code} {n : Nat} {tm : List (Nat × PV)} {S S' : List Blk} {Q : Exit → PS → Prop} (tm' : List (Nat × PV)) (k : Nat) (c : Code) (h : Has tm tm') (hc : Tk P (c :: l) ⟨n, tm', S'⟩ Q) (hS : S.take k = S' := by rfl) : Tk P (c :: l) ⟨n, tm, S⟩ Q :=
  forget tm' k h.all hS hc
/-- A loop: what it changes is told by a. -/
theorem kw {P : Program} {body : Code} {l : List Code} {n : Nat} {tm : List (Nat × PV)} {S0 : List Blk} {Q : Exit → PS → Prop} {α : Type} (T : α → List (Nat × PV)) (S : α → List Blk) (V : α → Prop) (μ : α → Nat) (a0 : α) (h0 : V a0) (hh : Holds ⟨n, tm, S0⟩ n (T a0) (S a0))
    (round : ∀ a, V a → Tk P [body] ⟨n, T a, S a⟩ (behind (fun σ' => ∃ a', V a' ∧ μ a' < μ a ∧ Holds σ' n (T a') (S a')) (behind (fun σ' => Tk P l σ' Q) Q))) : Tk P (.loop body :: l) ⟨n, tm, S0⟩ Q :=
  tr_while T S V μ a0 h0 hh fun a ha => tk_start (round a ha)
/-- Where ways meet again: what is known behind. -/
theorem kcut {P : Program} {c : Code} {l : List Code} {n : Nat} {tm : List (Nat × PV)} {S0 : List Blk} {Q : Exit → PS → Prop} {α : Type} (T : α → List (Nat × PV)) (S : α → List Blk) (V : α → Prop) (hx : Tk P [c] ⟨n, tm, S0⟩ (behind (fun σ' => ∃ a, V a ∧ Holds σ' n (T a) (S a)) Q)) (hy : ∀ a, V a → Tk P l ⟨n, T a, S a⟩ Q) (hl : l ≠ []) : Tk P (c :: l) ⟨n, tm, S0⟩ Q := by
  refine Tr.mono (tk_start hx) ?_
  intro e σ' h
  cases e with
  | normal =>
    obtain ⟨a, hv, h1, h2, k, h3⟩ := h
    obtain ⟨n', tm', S2⟩ := σ'
    simp only at h1 h2 h3
    subst h1
    cases l with
    | nil => exact absurd rfl hl
    | cons c' l => exact forget (T a) k h2.all h3 (hy a hv)
  | exit id => exact h
  | goto l => exact h
  | ret => exact h
  | panic ch => exact h
  | outgrown => exact h
end Go.Proofs.YtenoecffjfcifaaDoor.Pv

-- Twenty-third text: functions that give what they made: the caller reads it as a pure value.
namespace Go.Proofs.YtenoecffjfcifaaDoor.Pv
set_option linter.all false
open Go.RowKit
set_option linter.unusedVariables false
/-- x, of one's own, is read as y from now on. -/
inductive Gives (S : List Blk) : PV → PV → Prop
  | same {x : PV} (h : x.Pure) : Gives S x x
  | vw {τ g off len : Nat} {blk : Blk} {rows : List (List PV)} (hb : S[τ]? = some blk) (hg : blk.gen = g) (hr : (blk.rows.drop off).take len = rows) (hp : ∀ row ∈ rows, ∀ x ∈ row, PV.Pure x) : Gives S (.vw τ g off len) (.ro blk.sz false rows)
  | nil {sz : Nat} {b : Bool} : Gives S (.v (.slice none 0 0)) (.ro sz b [])
  | mp {τ g : Nat} {o : Bool} {es : List (ByteArray × Int)} (hb : S[τ]? = some ⟨g, o, 0, [[.rmp es]]⟩) : Gives S (.mp τ g) (.rmp es)
  | mnil : Gives S (.v (.map none)) (.rmp [])
  | agg {cs ds : List PV} (hl : cs.length = ds.length) (h : ∀ (i : Nat) (x y : PV), cs[i]? = some x → ds[i]? = some y → Gives S x y) : Gives S (.agg cs) (.agg ds)
  | tup {cs ds : List PV} (hl : cs.length = ds.length) (h : ∀ (i : Nat) (x y : PV), cs[i]? = some x → ds[i]? = some y → Gives S x y) : Gives S (.tup cs) (.tup ds)

theorem gives_two {S : List Blk} {x y x' y' : PV} (h : Gives S x x') (k : Gives S y y') : Gives S (.tup [x, y]) (.tup [x', y']) := .tup rfl fun i a b ha hb => by
  match i, ha, hb with
  | 0, ha, hb => simp at ha hb; subst ha hb; exact h
  | 1, ha, hb => simp at ha hb; subst ha hb; exact k
  | i + 2, ha, hb => simp at ha
theorem gives_three {S : List Blk} {x y z x' y' z' : PV} (h : Gives S x x') (k : Gives S y y') (m : Gives S z z') : Gives S (.tup [x, y, z]) (.tup [x', y', z']) := .tup rfl fun i a b ha hb => by
  match i, ha, hb with
  | 0, ha, hb => simp at ha hb; subst ha hb; exact h
  | 1, ha, hb => simp at ha hb; subst ha hb; exact k
  | 2, ha, hb => simp at ha hb; subst ha hb; exact m
  | i + 3, ha, hb => simp at ha
theorem gives_ints {S : List Blk} {τ g gg len sz : Nat} {o : Bool} {k : IntKind} {l : List Int} (hb : S[τ]? = some ⟨gg, o, sz, ints k l⟩) (hg : gg = g) (hl : l.length = len) : Gives S (.vw τ g 0 len) (.ro sz false (ints k l)) := by
  refine .vw hb hg ?_ ?_
  · simp only [List.drop_zero]
    rw [← hl, ← ints_length k l, List.take_length]
  · intro row hr x hx
    obtain ⟨b, _, rfl⟩ := List.mem_map.1 hr
    simp at hx
    subst hx
    exact .v _

def Cx.bare (c : Cx) : Cx := { c with S := [] }
theorem Gives.rel {c : Cx} (hi : Inv c) {x y : PV} (h : Gives c.S x y) {v : Value} (hr : RelV c x v) : RelV c.bare y v := by
  have hX : ∀ T b, ¬ (c.lend T).X b → ¬ c.bare.X b := by
    rintro T b hb (h1 | ⟨τ, blk, p, h1, _⟩)
    · refine hb (.inl ⟨.inl h1, ?_⟩)
      rintro ⟨τ, p, blk, _, h2, h3, rfl⟩
      exact hi.notG τ blk p h2 h3 h1
    · simp [Cx.bare] at h1
  induction h generalizing v with
  | same h =>
    have k := (Lend.same (S := c.S) (T := []) h).rel hi hr
    exact k.pure h (hX []) (fun a u _ h => h) (fun _ _ _ _ h => h)
  | vw hb hg hr' hp =>
    rename_i τ g off len blk rows
    have k := (Lend.vw (S := c.S) (T := [τ]) (by simp) hb hg hr' hp).rel hi hr
    exact k.pure (.ro hp) (hX [τ]) (fun a u _ h => h) (fun _ _ _ _ h => h)
  | nil =>
    cases hr
    rename_i sz b
    exact .ro sz b [] none 0 (fun _ _ => .nilIface) (Nat.le_refl _) (by simp) (by simp) (by simp) (by simp) (by simp) (by simp) (by simp)
  | mp hb =>
    rename_i τ g o es
    cases hr with
    | mp _ _ y hy hN hv =>
      obtain ⟨p, hp, rfl⟩ := hv _ hb rfl
      rcases (hi.blk _ _ hb).heap p hp with ⟨hl, _⟩ | ⟨_, ho2⟩
      · have := hl 0 _ rfl
        simp at this
      · obtain ⟨es2, arr, ck, h1, h2, h3⟩ := ObjOk.asMap ho2
        simp only [List.cons.injEq, PV.rmp.injEq, and_true] at h1
        subst h1
        refine .rmp _ p.1 arr ck ?_ h2 h3
        rintro (h | ⟨τ', blk', p', h, _⟩)
        · exact hi.notG _ _ p hb hp h
        · simp [Cx.bare] at h
  | mnil =>
    cases hr
    exact .rnil
  | agg hl h ih =>
    cases hr with
    | agg _ vs hs h1 hr =>
      refine .agg _ _ (hs.trans hl) h1 (fun i y v hy hv => ?_)
      rename_i cs ds
      have hlt := (List.getElem?_eq_some_iff.1 hy).1
      have hx : cs[i]? = some (cs[i]'(by omega)) := List.getElem?_eq_getElem _
      exact ih i _ y hx hy (hr i _ v hx hv)
  | tup hl h ih =>
    cases hr with
    | tup _ vs hs hr =>
      refine .tup _ _ (hs.trans hl) (fun i y v hy hv => ?_)
      rename_i cs ds
      have hlt := (List.getElem?_eq_some_iff.1 hy).1
      have hx : cs[i]? = some (cs[i]'(by omega)) := List.getElem?_eq_getElem _
      exact ih i _ y hx hy (hr i _ v hx hv)

theorem pcall_gives {P : Program} {f : FuncId} {args : List PV} {r : PV} (hp : ∀ x ∈ args, x.Pure) (hpr : r.Pure) (h : GCall P f args [] fun x S => Gives S x r) : PCall P f args r := by
  refine ⟨hp, hpr, fun c vals hi hs hl hv => (h c vals hi hs hl hv).mono ?_⟩
  rintro e w' ⟨v, x, c', rfl, rfl, hG, hi', hst, hr⟩
  have hd := dropBlk hi' 0
  rw [show c'.S.take 0 = [] by simp] at hd
  exact ⟨v, r, c'.bare, rfl, rfl, rfl, hd.1, hst.trans hd.2, hG.rel hi' hr⟩
theorem pcall_mkg {P : Program} {f : FuncId} {fn : Func} {code : Code} {args : List PV} {r : PV} [hp : PureL args] [hr' : PureC r] (hf : P.funcs[f]? = some fn) (hb : fn.body = some code) (rs : List ResultVar) (hr : fn.results = rs.toArray) (n : Nat) (hn : args.length + (fn.ntmps - args.length) = n)
    (h : Tr P code ⟨n, argTm 0 args, []⟩ (Ends P rs fun x S => Gives S x r)) : PCall P f args r := pcall_gives hp.h hr'.h (gcall_of_tr hf hb rs hr n hn h)
end Go.Proofs.YtenoecffjfcifaaDoor.Pv

-- Twenty-fourth text: bits of small numbers.
namespace Go.Proofs.YtenoecffjfcifaaDoor.Pv
set_option linter.all false
open Go.RowKit
theorem holdsA {n : Nat} {tm T : List (Nat × PV)} {S S' : List Blk} (h : Has tm T) (hS : S = S' := by rfl) : Holds ⟨n, tm, S⟩ n T S' := ⟨rfl, h, S.length, by rw [List.take_length]; exact hS⟩
theorem ofInt_toNat {n : Nat} {x : Int} (h0 : 0 ≤ x) (h1 : x < 2 ^ n) : (BitVec.ofInt n x).toNat = x.toNat := by
  rw [BitVec.toNat_ofInt]
  have : x % ((2 : Nat) ^ n : Nat) = x := Int.emod_eq_of_lt h0 (by simpa using h1)
  rw [this]
theorem and_u8 (x y : Int) (h0 : 0 ≤ x) (h1 : x < 256) (g0 : 0 ≤ y) (g1 : y < 256) : Go.bits .and .u8 x y = ((x.toNat &&& y.toNat : Nat) : Int) := by
  show IntKind.u8.wrap (((BitVec.ofInt 8 x &&& BitVec.ofInt 8 y).toNat : Nat) : Int) = _
  rw [BitVec.toNat_and, ofInt_toNat (n := 8) h0 (by omega), ofInt_toNat (n := 8) g0 (by omega)]
  refine wrap_u8 _ (by omega) ?_
  have := Nat.and_le_left (n := x.toNat) (m := y.toNat)
  omega
theorem or_u8 (x y : Int) (h0 : 0 ≤ x) (h1 : x < 256) (g0 : 0 ≤ y) (g1 : y < 256) : Go.bits .or .u8 x y = ((x.toNat ||| y.toNat : Nat) : Int) := by
  show IntKind.u8.wrap (((BitVec.ofInt 8 x ||| BitVec.ofInt 8 y).toNat : Nat) : Int) = _
  rw [BitVec.toNat_or, ofInt_toNat (n := 8) h0 (by omega), ofInt_toNat (n := 8) g0 (by omega)]
  refine wrap_u8 _ (by omega) ?_
  have := Nat.or_lt_two_pow (n := 8) (x := x.toNat) (y := y.toNat) (by omega) (by omega)
  omega
theorem or_i64 (x y : Int) (h0 : 0 ≤ x) (h1 : x < 4294967296) (g0 : 0 ≤ y) (g1 : y < 4294967296) : Go.bits .or .i64 x y = ((x.toNat ||| y.toNat : Nat) : Int) := by
  show IntKind.i64.wrap (((BitVec.ofInt 64 x ||| BitVec.ofInt 64 y).toNat : Nat) : Int) = _
  rw [BitVec.toNat_or, ofInt_toNat (n := 64) h0 (by omega), ofInt_toNat (n := 64) g0 (by omega)]
  have := Nat.or_lt_two_pow (n := 32) (x := x.toNat) (y := y.toNat) (by omega) (by omega)
  exact wrap_i64 _ (by omega) (by omega)
theorem and1_u8 (x : Int) (h0 : 0 ≤ x) (h1 : x < 256) : Go.bits .and .u8 x 1 = x % 2 := by
  rw [and_u8 x 1 h0 h1 (by decide) (by decide)]
  have := Nat.and_two_pow_sub_one_eq_mod x.toNat 1
  simp at this ⊢
  omega
theorem and15_u8 (x : Int) (h0 : 0 ≤ x) (h1 : x < 256) : Go.bits .and .u8 x 15 = x % 16 := by
  rw [and_u8 x 15 h0 h1 (by decide) (by decide)]
  have := Nat.and_two_pow_sub_one_eq_mod x.toNat 4
  simp at this
  have e : (15 : Int).toNat = 15 := rfl
  rw [e, this]
  omega
/-- Numbers that share no bit. -/
theorem nat_or_add (n a b : Nat) (h : a < 2 ^ n) : a ||| (b * 2 ^ n) = a + b * 2 ^ n := by
  have := Nat.two_pow_add_eq_or_of_lt (b := a) (i := n) h b
  rw [Nat.mul_comm, Nat.or_comm, ← this, Nat.add_comm]
theorem or_add_256 (x y : Int) (h0 : 0 ≤ x) (h1 : x < 256) (g0 : 0 ≤ y) (g1 : y < 65536) : Go.bits .or .i64 x (y * 256) = x + y * 256 := by
  rw [or_i64 x (y * 256) h0 (by omega) (by omega) (by omega)]
  have e : (y * 256).toNat = y.toNat * 2 ^ 8 := by omega
  rw [e, nat_or_add 8 x.toNat y.toNat (by omega)]
  omega
theorem or_add_16 (x y : Int) (h0 : 0 ≤ x) (h1 : x < 16) (g0 : 0 ≤ y) (g1 : y < 65536) : Go.bits .or .i64 x (y * 16) = x + y * 16 := by
  rw [or_i64 x (y * 16) h0 (by omega) (by omega) (by omega)]
  have e : (y * 16).toNat = y.toNat * 2 ^ 4 := by omega
  rw [e, nat_or_add 4 x.toNat y.toNat (by omega)]
  omega
end Go.Proofs.YtenoecffjfcifaaDoor.Pv

-- Twenty-fifth text: regions that draw their order, whose last operation writes.
namespace Go.Proofs.YtenoecffjfcifaaDoor.Pv
set_option linter.all false
open Go.RowKit
set_option linter.unusedVariables false
variable {ro : Option Nat} {mm : Nat}
/-- The last operation waits for all others. -/
def lastB (ops : Array Oper) : Bool :=
  match ops[ops.size - 1]? with
  | some o => o.guard.isNone && (List.range (ops.size - 1)).all fun k => o.after.any fun e => e.on == k && Region.binds .any e
  | none => false

theorem any_last {P : Program} {ops : Array Oper} {Q : Exit → PS → Prop} (hok : drawOk ops = true) {m : Nat} {oL : Oper} (hm : ops[m]? = some oL) (hsz : ops.size = m + 1) (hg : oL.guard = none)
    (hlast : ∀ k, k < m → ∃ e ∈ oL.after, e.on = k ∧ Region.binds .any e = true) : ∀ (fuel : Nat) (listed : Array Bool) (l : List Nat) (c0 c : Cx) (σ : PS) (a : Act), l.length = fuel → Left ops listed (l ++ [m]) → Step c0 c → Rel c σ a → (∀ o ∈ ops.toList, dstOk σ.n o = true) →
    PSt P ops (fun σ' => ∃ σ'', LEq σ' σ'' ∧ PopSem P σ'' oL (fun x S' => Q .normal (σ''.put oL.dst x S'))) l σ → wpAnyIn (FR ro) mm P .any ops (Post c0 Q) (fuel + 1) listed a c.w := by
  have hQ : ∀ σ σ', LEq σ σ' → (∃ σ'', LEq σ σ'' ∧ PopSem P σ'' oL (fun x S' => Q .normal (σ''.put oL.dst x S'))) → ∃ σ'', LEq σ' σ'' ∧ PopSem P σ'' oL (fun x S' => Q .normal (σ''.put oL.dst x S')) := fun σ σ' h ⟨σ'', h1, h2⟩ => ⟨σ'', h.symm.trans h1, h2⟩
  have nil : ∀ listed, Left ops listed [] → Region.ready .any ops listed = [] := by
    intro listed hl
    rw [List.eq_nil_iff_forall_not_mem]
    intro i hi
    obtain ⟨h1, h2, _⟩ := ready_spec hi
    have := (hl.mem i).2 ⟨h1, h2⟩
    simp at this
  intro fuel
  induction fuel with
  | zero =>
    intro listed l c0 c σ a hlen hl hs r hd h
    obtain rfl := List.eq_nil_of_length_eq_zero hlen
    refine ⟨fun h0 => ?_, fun i hi => ?_⟩
    · rw [List.eq_nil_iff_forall_not_mem] at h0
      exact absurd (head_ready hok hl) (h0 m)
    · obtain ⟨h1, h2, o, ho, hp⟩ := ready_spec hi
      have him := (hl.mem i).2 ⟨h1, h2⟩
      simp at him
      subst him
      rw [hm] at ho
      cases ho
      obtain ⟨σ'', g1, g2⟩ := h
      have r' := r.leq g1
      have hd' : ∀ o ∈ ops.toList, dstOk σ''.n o = true := by rw [← g1.1]; exact hd
      have hdo : ∀ t, oL.dst = some t → t < σ''.n := dstOk_lt (hd' oL (by rw [← Array.getElem?_toList] at hm; exact List.mem_of_getElem? hm))
      have hnd : notDefer oL = true := dstOk_nd (hd' oL (by rw [← Array.getElem?_toList] at hm; exact List.mem_of_getElem? hm))
      unfold wpOpIn
      simp only [hm]
      rw [if_pos (by simp [Region.wanted, hg])]
      refine wpIn_of_wp hnd (g2 c a r' _ _ (fun x c' v hK hi' hst hv => ?_))
      have rr := r'.put hst hi' hv hdo
      have hl0 : Left ops (listed.setIfInBounds i true) [] := by
        have := hl.take (l1 := []) (l2 := [])
        exact this
      exact ⟨nil _ hl0, ⟨c', _, hs.trans hst, rfl, rr, hK⟩⟩
  | succ fuel ih =>
    intro listed l c0 c σ a hlen hl hs r hd h
    refine ⟨fun h0 => ?_, fun i hi => ?_⟩
    · cases l with
      | nil => simp at hlen
      | cons i l => rw [List.eq_nil_iff_forall_not_mem] at h0; exact absurd (head_ready hok hl) (h0 i)
    · obtain ⟨h1, h2, o, ho, hp⟩ := ready_spec hi
      have him := (hl.mem i).2 ⟨h1, h2⟩
      rcases List.mem_append.1 him with him | him
      · obtain ⟨l1, l2, rfl⟩ := List.append_of_mem him
        rw [List.append_assoc, List.cons_append] at hl
        have hf := PSt.front hQ ho l1 l2 σ (left_apart hok hl ho hp) h
        unfold PSt at hf
        simp only [ho] at hf
        obtain ⟨x, g1, g2⟩ := hf
        refine wpOp_of_gst ho hd r g1 (fun c' a' hst hr => ?_)
        have hl' := hl.take
        rw [← List.append_assoc] at hl'
        refine ih _ (l1 ++ l2) c0 c' _ a' (by simp at hlen ⊢; omega) hl' (hs.trans hst) hr ?_ g2
        intro o' ho'
        have : (σ.put o.dst x σ.S).n = σ.n := by cases o.dst <;> rfl
        rw [this]
        exact hd o' ho'
      · simp at him
        subst him
        rw [hm] at ho
        cases ho
        cases l with
        | nil => simp at hlen
        | cons k l =>
          have hk := (hl.mem k).1 (by simp)
          have hkm : k < i := by
            have := hl.sorted
            simp only [List.cons_append, List.pairwise_cons] at this
            exact this.1 i (by simp)
          obtain ⟨e, he, hek, hbd⟩ := hlast k hkm
          have := hl.pred (hp e he hbd)
          rw [hek] at this
          exact absurd (by simp) this

theorem pst_mono {P : Program} {ops : Array Oper} {Q Q' : PS → Prop} (hq : ∀ σ, Q σ → Q' σ) : ∀ (l : List Nat) (σ : PS), PSt P ops Q l σ → PSt P ops Q' l σ := by
  intro l
  induction l with
  | nil => intro σ h; exact hq σ h
  | cons i l ih =>
    intro σ h
    unfold PSt at h ⊢
    split
    · rename_i ho; simp only [ho] at h; exact ih _ h
    · rename_i o ho
      simp only [ho] at h
      obtain ⟨x, g1, g2⟩ := h
      exact ⟨x, g1, ih _ g2⟩

theorem pst_of_pre {P : Program} {ops : Array Oper} {Q : PS → Prop} : ∀ (l : List Oper) (k : Nat) (σ : PS), (∀ j, j < l.length → l[j]? = ops[k + j]?) → PStL P ops.toList Q l σ → PSt P ops Q (List.range' k l.length) σ
  | [], k, σ, _, h => h
  | o :: l, k, σ, hl, h => by
    have h0 : ops[k]? = some o := by simpa using (hl 0 (by simp)).symm
    obtain ⟨x, g1, g2⟩ := h
    simp only [List.length_cons, List.range'_succ, PSt, h0]
    exact ⟨x, g1, pst_of_pre l (k + 1) _ (fun j hj => by have := hl (j + 1) (by simpa using hj); simpa [Nat.add_assoc, Nat.add_comm 1 j] using this) g2⟩

theorem evr_init {P : Program} {L : List Pr} {x : Pr} {σ σ' : PS} (h : EvR P (L ++ [x]) σ σ' 1) : EvR P L σ σ' 0 := by
  generalize hl : L ++ [x] = M at h
  generalize hn : 1 = n at h
  induction h generalizing L with
  | stop l σ =>
    subst hl
    have : L = [] := by
      cases L with
      | nil => rfl
      | cons a L => simp at hn
    subst this
    exact .stop [] σ
  | step hg h k ih =>
    cases L with
    | nil =>
      simp at hl
      obtain ⟨rfl, rfl⟩ := hl
      cases k
      simp at hn
    | cons a L =>
      simp at hl
      obtain ⟨rfl, rfl⟩ := hl
      exact .step hg h (ih rfl hn)
  | skip hg hb hw k ih =>
    cases L with
    | nil =>
      simp at hl
      obtain ⟨rfl, rfl⟩ := hl
      cases k
      simp at hn
    | cons a L =>
      simp at hl
      obtain ⟨rfl, rfl⟩ := hl
      exact .skip hg hb hw (ih rfl hn)

/-- Such a region, all but its last operation done. -/
theorem kdw {P : Program} {id : Nat} {ops : Array Oper} {l : List Code} {σ : PS} {Q : Exit → PS → Prop} (σ' : PS) (k : Pops P ops.toList (fun σ' => Tk P l σ' Q) (lastN ops.toList 1) σ') [hm : Mixed P] (hd : ops.toList.all (fun o => dstOk σ.n o && gOk ops.toList o) = true := by kernel_rfl) (hok : drawOk ops = true := by kernel_rfl) (hlb : lastB ops = true := by kernel_rfl)
    (he : EvR P (prs ops.toList ops.toList) σ σ' 1 := by repeat (first | (refine is_c ?_; first | (refine is_u ?_; first | (refine is_mv ?_; refine es_mv ?_) | (refine is_as ?_; refine es_as ?_) | (refine is_bin ?_; first | (refine is_b_lss ?_; first | refine es_lt_t ?_ | refine es_lt_f ?_ | refine es_lt ?_) | (refine is_b_leq ?_; first | refine es_le_t ?_ | refine es_le_f ?_ | refine es_le ?_) | (refine is_b_gtr ?_; first | refine es_gt_t ?_ | refine es_gt_f ?_ | refine es_gt ?_) | (refine is_b_geq ?_; first | refine es_ge_t ?_ | refine es_ge_f ?_ | refine es_ge ?_) | (refine is_b_eql ?_; first | refine es_eq_t ?_ | refine es_eq_f ?_ | refine es_eq ?_ | refine es_seq_t ?_ | refine es_seq_f ?_ | refine es_seq ?_ | refine es_aeq_t ?_ | refine es_aeq ?_ | refine es_beq ?_ | refine es_eqn_ro ?_ | refine es_eqn_nil ?_ | refine es_eqp_ptr ?_ | refine es_eqp_nil ?_) | (refine is_b_neq ?_; first | refine es_ne_t ?_ | refine es_ne_f ?_ | refine es_ne ?_ | refine es_sne_t ?_ | refine es_sne_f ?_ | refine es_sne ?_ | refine es_ane_f ?_ | refine es_ane ?_ | refine es_bne ?_ | refine es_nen_ro ?_ | refine es_nen_nil ?_ | refine es_nep_ptr ?_ | refine es_nep_nil ?_) | (refine is_b_add ?_; first | refine es_add ?_ | refine es_sadd ?_) | (refine is_b_sub ?_; refine es_sub ?_) | (refine is_b_mul ?_; refine es_mul ?_) | (refine is_b_quo ?_; refine es_quo ?_) | (refine is_b_rem ?_; refine es_rem ?_) | (refine is_b_and ?_; first | refine es_andh ?_ | refine es_and ?_) | (refine is_b_or ?_; first | refine es_orh ?_ | refine es_or ?_) | (refine is_b_xor ?_; first | refine es_xorh ?_ | refine es_xor ?_) | (refine is_b_andNot ?_; first | refine es_andnh ?_ | refine es_andn ?_) | (refine is_b_shl ?_; refine es_shl ?_) | (refine is_b_shr ?_; refine es_shr ?_)) | (refine is_ld ?_; first | refine es_ld_rp ?_ | refine es_lda_rp ?_ | refine es_ld_ptr ?_ | refine es_lda_ptr ?_ | refine es_ld_ca ?_ | refine es_ld_ct ?_ | refine es_lda_row ?_) | (refine is_ixa ?_; first | refine es_ix_ro ?_ | refine es_ix_vw ?_ | refine es_ix_arr ?_ | refine es_ix_sub ?_) | (refine is_ix ?_; first | refine es_six ?_ | refine es_aixc ?_ | refine es_aix ?_) | (refine is_fa ?_; first | refine es_fa_ptr ?_ | refine es_fa_rp ?_) | (refine is_ext ?_; refine es_ext ?_) | (refine is_lk ?_; first | refine es_lk_r ?_ | refine es_lk_m ?_ | refine es_lo_r ?_ | refine es_lo_m ?_) | (refine is_pick ?_; first | refine es_pick_t ?_ | refine es_pick_f ?_ | refine es_pick ?_) | (refine is_call ?_; first | refine es_slen ?_ | refine es_len_ro ?_ | refine es_len_vw ?_ | refine es_len_nil ?_ | refine es_len_sub ?_ | refine es_len_str ?_ | refine es_min ?_ | refine es_max ?_ | refine es_len_m ?_) | (refine is_conv ?_; refine es_conv ?_) | (refine is_un ?_; first | refine es_not_t ?_ | refine es_not_f ?_ | refine es_not ?_ | refine es_neg ?_) | (refine is_fv ?_; first | refine es_fv ?_ | refine es_fva ?_) | (refine is_nil ?_; first | refine es_nil_ptr ?_ | refine es_nil_fn ?_) | (refine is_bld ?_; refine es_bld ?_) | (refine is_mf ?_; refine es_mf ?_) | (refine is_sl ?_; first | refine es_sl_arr ?_ | refine es_sl_h ?_ | refine es_sl_l ?_ | refine es_sl_b ?_ | refine es_ssl_h ?_ | refine es_ssl_l ?_ | refine es_ssl_b ?_ | refine es_vsl_h ?_ | refine es_vsl_l ?_ | refine es_vsl_b ?_ | refine es_vsl_3 ?_ | refine es_sl_3 ?_ | refine es_rsl_h ?_ | refine es_rsl_l ?_ | refine es_rsl_b ?_)) | (refine es_guard ?_; first | (refine is_mv ?_; refine es_mv ?_) | (refine is_as ?_; refine es_as ?_) | (refine is_bin ?_; first | (refine is_b_lss ?_; first | refine es_lt_t ?_ | refine es_lt_f ?_ | refine es_lt ?_) | (refine is_b_leq ?_; first | refine es_le_t ?_ | refine es_le_f ?_ | refine es_le ?_) | (refine is_b_gtr ?_; first | refine es_gt_t ?_ | refine es_gt_f ?_ | refine es_gt ?_) | (refine is_b_geq ?_; first | refine es_ge_t ?_ | refine es_ge_f ?_ | refine es_ge ?_) | (refine is_b_eql ?_; first | refine es_eq_t ?_ | refine es_eq_f ?_ | refine es_eq ?_ | refine es_seq_t ?_ | refine es_seq_f ?_ | refine es_seq ?_ | refine es_aeq_t ?_ | refine es_aeq ?_ | refine es_beq ?_ | refine es_eqn_ro ?_ | refine es_eqn_nil ?_ | refine es_eqp_ptr ?_ | refine es_eqp_nil ?_) | (refine is_b_neq ?_; first | refine es_ne_t ?_ | refine es_ne_f ?_ | refine es_ne ?_ | refine es_sne_t ?_ | refine es_sne_f ?_ | refine es_sne ?_ | refine es_ane_f ?_ | refine es_ane ?_ | refine es_bne ?_ | refine es_nen_ro ?_ | refine es_nen_nil ?_ | refine es_nep_ptr ?_ | refine es_nep_nil ?_) | (refine is_b_add ?_; first | refine es_add ?_ | refine es_sadd ?_) | (refine is_b_sub ?_; refine es_sub ?_) | (refine is_b_mul ?_; refine es_mul ?_) | (refine is_b_quo ?_; refine es_quo ?_) | (refine is_b_rem ?_; refine es_rem ?_) | (refine is_b_and ?_; first | refine es_andh ?_ | refine es_and ?_) | (refine is_b_or ?_; first | refine es_orh ?_ | refine es_or ?_) | (refine is_b_xor ?_; first | refine es_xorh ?_ | refine es_xor ?_) | (refine is_b_andNot ?_; first | refine es_andnh ?_ | refine es_andn ?_) | (refine is_b_shl ?_; refine es_shl ?_) | (refine is_b_shr ?_; refine es_shr ?_)) | (refine is_ld ?_; first | refine es_ld_rp ?_ | refine es_lda_rp ?_ | refine es_ld_ptr ?_ | refine es_lda_ptr ?_ | refine es_ld_ca ?_ | refine es_ld_ct ?_ | refine es_lda_row ?_) | (refine is_ixa ?_; first | refine es_ix_ro ?_ | refine es_ix_vw ?_ | refine es_ix_arr ?_ | refine es_ix_sub ?_) | (refine is_ix ?_; first | refine es_six ?_ | refine es_aixc ?_ | refine es_aix ?_) | (refine is_fa ?_; first | refine es_fa_ptr ?_ | refine es_fa_rp ?_) | (refine is_ext ?_; refine es_ext ?_) | (refine is_lk ?_; first | refine es_lk_r ?_ | refine es_lk_m ?_ | refine es_lo_r ?_ | refine es_lo_m ?_) | (refine is_pick ?_; first | refine es_pick_t ?_ | refine es_pick_f ?_ | refine es_pick ?_) | (refine is_call ?_; first | refine es_slen ?_ | refine es_len_ro ?_ | refine es_len_vw ?_ | refine es_len_nil ?_ | refine es_len_sub ?_ | refine es_len_str ?_ | refine es_min ?_ | refine es_max ?_ | refine es_len_m ?_) | (refine is_conv ?_; refine es_conv ?_) | (refine is_un ?_; first | refine es_not_t ?_ | refine es_not_f ?_ | refine es_not ?_ | refine es_neg ?_) | (refine is_fv ?_; first | refine es_fv ?_ | refine es_fva ?_) | (refine is_nil ?_; first | refine es_nil_ptr ?_ | refine es_nil_fn ?_) | (refine is_bld ?_; refine es_bld ?_) | (refine is_mf ?_; refine es_mf ?_) | (refine is_sl ?_; first | refine es_sl_arr ?_ | refine es_sl_h ?_ | refine es_sl_l ?_ | refine es_sl_b ?_ | refine es_ssl_h ?_ | refine es_ssl_l ?_ | refine es_ssl_b ?_ | refine es_vsl_h ?_ | refine es_vsl_l ?_ | refine es_vsl_b ?_ | refine es_vsl_3 ?_ | refine es_sl_3 ?_ | refine es_rsl_h ?_ | refine es_rsl_l ?_ | refine es_rsl_b ?_)) | refine es_skip ?_) | exact EvR.stop _ _)) : Tk P (.region id ops true :: l) σ Q := by
  intro ro mm c a r hro
  have hd' := List.all_eq_true.1 hd
  unfold lastB at hlb
  split at hlb
  · rename_i oL hL
    simp only [Bool.and_eq_true, Option.isNone_iff_eq_none] at hlb
    obtain ⟨hg, hlast⟩ := hlb
    have hlt : ops.size - 1 < ops.size := (Array.getElem?_eq_some_iff.1 hL).1
    have hsplit : ops.toList = ops.toList.take (ops.size - 1) ++ [oL] := by
      have h1 : ops.toList.drop (ops.size - 1) = [oL] := by
        rw [List.drop_eq_getElem_cons (by simpa using hlt)]
        have h2 : ops.toList[ops.size - 1]'(by simpa using hlt) = oL := by
          have := hL
          rw [Array.getElem?_eq_getElem hlt] at this
          simpa using this
        rw [h2, List.drop_eq_nil_of_le (by simp; omega)]
      rw [← h1, List.take_append_drop]
    have hlN : lastN ops.toList 1 = [oL] := by
      unfold lastN
      rw [Array.length_toList, List.drop_eq_getElem_cons (by simpa using hlt)]
      have h2 : ops.toList[ops.size - 1]'(by simpa using hlt) = oL := by
        have := hL
        rw [Array.getElem?_eq_getElem hlt] at this
        simpa using this
      rw [h2, List.drop_eq_nil_of_le (by simp; omega)]
    rw [hlN] at k
    have kp : PopSem P σ' oL (fun x S' => Tk P l (σ'.put oL.dst x S') Q) := by
      unfold Pops at k
      rw [hg] at k
      exact k
    have he' : EvR P (prs ops.toList (ops.toList.take (ops.size - 1))) σ σ' 0 := by
      have h3 : prs ops.toList ops.toList = prs ops.toList (ops.toList.take (ops.size - 1)) ++ [prOf ops.toList oL] := by
        conv => lhs; rw [prs, hsplit]
        rw [List.map_append]
        simp only [prs, List.map_cons, List.map_nil, ← hsplit]
      rw [h3] at he
      exact evr_init he
    have pre := pstl_evr (P := P) (ops := ops.toList) (Q := fun σ' => ∃ σ'', LEq σ' σ'' ∧ PopSem P σ'' oL (fun x S' => behind (fun σ' => Tk P l σ' Q) Q .normal (σ''.put oL.dst x S'))) (ops.toList.take (ops.size - 1)) σ σ' 0
      (fun o ho => (Bool.and_eq_true_iff.1 (hd' o (List.mem_of_mem_take ho))).2) he' (by rw [lastN_zero]; exact ⟨σ', .rfl' σ', kp⟩)
    have pst := pst_of_pre (ops.toList.take (ops.size - 1)) 0 σ (fun j hj => by
      rw [List.length_take] at hj
      rw [List.getElem?_take, if_pos (by omega), Nat.zero_add, Array.getElem?_toList]) pre
    refine wpIn_region_any hm.h ?_
    obtain ⟨c', h1, h2, h3⟩ := r.drew (c.w.drawn + 1)
    rw [← h2]
    have hlen : (ops.toList.take (ops.size - 1)).length = ops.size - 1 := by rw [List.length_take, Array.length_toList]; omega
    rw [hlen] at pst
    have hrange : List.range ops.size = List.range' 0 (ops.size - 1) ++ [ops.size - 1] := by
      conv => lhs; rw [show ops.size = (ops.size - 1) + 1 by omega, List.range_succ]
      rw [List.range_eq_range']
    have hleft := left_all ops
    rw [hrange] at hleft
    have key := any_last (ro := ro) (mm := mm) (P := P) (ops := ops) (Q := behind (fun σ' => Tk P l σ' Q) Q) hok hL (by omega) hg (fun k hk => by
      have := (List.all_eq_true.1 hlast) k (by simpa using hk)
      obtain ⟨e, he, hb⟩ := Array.any_eq_true'.1 this
      simp only [Bool.and_eq_true, beq_iff_eq] at hb
      exact ⟨e, he, hb.1, hb.2⟩) (ops.size - 1) _ (List.range' 0 (ops.size - 1)) c c' σ a (by simp) hleft h1 h3 (fun o ho => (Bool.and_eq_true_iff.1 (hd' o ho)).1) pst
    rw [show ops.size - 1 + 1 = ops.size by omega] at key
    exact key
  · cases hlb
end Go.Proofs.YtenoecffjfcifaaDoor.Pv

-- Twenty-sixth text: what is no longer written, and calls that read it.
namespace Go.Proofs.YtenoecffjfcifaaDoor.Pv
set_option linter.all false
open Go.RowKit
set_option linter.unusedVariables false
section
variable {P : Program} {ops : List Oper} {Q : PS → Prop} {rest : List Oper} {n : Nat} {tm : List (Nat × PV)} {S S' : List Blk} {d : Tmp} {ty : TypeId} {pos : String} {af : Array Edge}
theorem popSem_freeze {o : Oper} {K : PV → List Blk → Prop} {τ : Nat} {blk : Blk} (hb : S[τ]? = some blk) (k : PopSem P ⟨n, tm, S.set τ { blk with own := false }⟩ o K) : PopSem P ⟨n, tm, S⟩ o K := by
  intro c a r next Q hn
  have hb' : c.S[τ]? = some blk := by rw [r.S]; exact hb
  obtain ⟨h1, h2⟩ := freezeBlk r.inv hb'
  exact k { c with S := c.S.set τ { blk with own := false } } a ⟨by simp only [r.S], h1, r.n, r.defers, fun t => (r.tm t).step h2⟩ next Q (fun x c' v hK hi hst hv => hn x c' v hK hi (h2.trans hst) hv)
/-- A block is no longer written from here on. -/
theorem ps_freeze {o : Oper} (τ : Nat) {blk : Blk} (k : Pops P ops Q (o :: rest) ⟨n, tm, S'⟩) (hb : S[τ]? = some blk := by ((conv => lhs; whnf) <;> fail "no")) (hS : S.set τ { blk with own := false } = S' := by first | (simp only [List.set_cons_zero, List.set_cons_succ]; exact rfl) | exact rfl) (hg : o.guard = none := by rfl) : Pops P ops Q (o :: rest) ⟨n, tm, S⟩ := by
  subst hS
  unfold Pops at k ⊢
  rw [hg] at k ⊢
  have := popSem_freeze hb k
  intro c a r next Q' hn
  exact this c a r next Q' hn
end
/-- Arguments, lent. -/
inductive Lends (S : List Blk) (T : List Nat) : List PV → List PV → Prop
  | nil : Lends S T [] []
  | cons {x y : PV} {xs ys : List PV} (h : Lend S T x y) (k : Lends S T xs ys) : Lends S T (x :: xs) (y :: ys)
theorem Lends.get {S : List Blk} {T : List Nat} {xs ys : List PV} (h : Lends S T xs ys) : xs.length = ys.length ∧ ∀ (i : Nat) (x y : PV), xs[i]? = some x → ys[i]? = some y → Lend S T x y := by
  induction h with
  | nil => exact ⟨rfl, fun i x y h => by simp at h⟩
  | cons h k ih =>
    refine ⟨by simp [ih.1], fun i x y h1 h2 => ?_⟩
    cases i with
    | zero => simp at h1 h2; subst h1; subst h2; exact h
    | succ i => exact ih.2 i x y (by simpa using h1) (by simpa using h2)
theorem lend_ints {S : List Blk} {T : List Nat} {τ g gg len sz : Nat} {o : Bool} {k : IntKind} {l : List Int} (hT : τ ∈ T) (hb : S[τ]? = some ⟨gg, o, sz, ints k l⟩) (hg : gg = g) (hl : l.length = len) : Lend S T (.vw τ g 0 len) (.ro sz false (ints k l)) := by
  refine .vw hT hb hg ?_ ?_
  · simp only [List.drop_zero]
    rw [← hl, ← ints_length k l, List.take_length]
  · intro row hr x hx
    obtain ⟨b, _, rfl⟩ := List.mem_map.1 hr
    simp at hx
    subst hx
    exact .v _
section
variable {P : Program} {ops : List Oper} {Q : PS → Prop} {rest : List Oper} {n : Nat} {tm : List (Nat × PV)} {S : List Blk} {d : Tmp} {ty : TypeId} {pos : String} {af : Array Edge}
/-- A call that reads slices of one's own. -/
theorem ps_rcall {f : FuncId} [hf : FnOk P f] {args : Array Operand} {ats : Array TypeId} {us bs : List PV} {r : PV} (T : List Nat) (h : PCall P f bs r) (hl : Lends S T us bs) (k : Pops P ops Q rest ⟨n, (d, r) :: tm, S⟩) (hr : r.Plain ∨ ∀ τ ∈ T, ∀ blk, S[τ]? = some blk → blk.own = false) (ha : args.toList.map (PS.get ⟨n, tm, S⟩) = us := by first | rfl | (simp only [List.map_cons, List.map_nil, PS.get, look, ↓reduceIte, Nat.reduceEqDiff, reduceCtorEq]; exact rfl)) :
    Pops P ops Q (⟨some d, .call ⟨.value (.func f), args, ats⟩, ty, pos, af, none⟩ :: rest) ⟨n, tm, S⟩ := ps_lcall h T hl.get.1 hl.get.2 hr k ha
theorem frozen_one {τ : Nat} {blk : Blk} (hb : S[τ]? = some blk) (ho : blk.own = false) : ∀ t ∈ [τ], ∀ b, S[t]? = some b → b.own = false := fun t ht b h => by
  simp at ht
  subst ht
  rw [hb] at h
  cases h
  exact ho
end
end Go.Proofs.YtenoecffjfcifaaDoor.Pv

-- Twenty-seventh text: calls told by values; guards parted.
namespace Go.Proofs.YtenoecffjfcifaaDoor.Pv
set_option linter.all false
open Go.RowKit
set_option linter.unusedVariables false
/-- What is told of a call of values holds of a call of pure values. -/
theorem pcall_of_calls {P : Program} {f : FuncId} (vs : List Value) {v : Value} (h : ∀ w, Calls P f vs.toArray w fun e w' => e = .returned v ∧ w' = w) : PCall P f (vs.map .v) (.v v) := by
  refine ⟨fun x hx => ?_, .v v, fun c vals hi hs hl hv => ?_⟩
  · obtain ⟨u, _, rfl⟩ := List.mem_map.1 hx
    exact .v u
  · have hvals : vals = vs.toArray := by
      apply Array.ext
      · simpa using hl
      · intro i h1 h2
        have := hv i (.v (vs.toArray[i])) vals[i] (by simp) (Array.getElem?_eq_getElem h1)
        generalize vs.toArray[i] = u at *
        generalize vals[i] = u' at *
        cases this
        rfl
    subst hvals
    refine (h c.w).mono ?_
    rintro e w' ⟨rfl, rfl⟩
    exact ⟨v, .v v, c, rfl, rfl, rfl, hi, .refl c, .v v⟩
/-- A value that is told whole. -/
def Exact (x : PV) (u : Value) : Prop := x.Pure ∧ (∀ c y, RelV c x y → y = u) ∧ ∀ c, RelV c x u
theorem exact_v (u : Value) : Exact (.v u) u := ⟨.v u, fun c y h => by cases h; rfl, fun c => .v u⟩
theorem exact_agg (us : List Value) (h1 : ∀ u ∈ us, u.oneCell' = true) : Exact (.agg (us.map .v)) (.agg us.toArray) := by
  refine ⟨.agg fun x hx => ?_, fun c y h => ?_, fun c => .agg _ _ (by simp) (fun i v hv => ?_) (fun i x v hx hv => ?_)⟩
  · obtain ⟨u, _, rfl⟩ := List.mem_map.1 hx
    exact .v u
  · cases h with
    | agg _ vs hs h2 hr =>
      congr 1
      apply Array.ext
      · simpa using hs
      · intro i g1 g2
        have := hr i (.v (us.toArray[i])) vs[i] (by simp) (Array.getElem?_eq_getElem g1)
        generalize us.toArray[i] = u at *
        generalize vs[i] = u' at *
        cases this
        rfl
  · exact h1 v (by rw [List.getElem?_toArray] at hv; exact List.mem_of_getElem? hv)
  · rw [List.getElem?_map] at hx
    rw [List.getElem?_toArray] at hv
    rw [hv] at hx
    cases hx
    exact .v v
inductive ExactL : List PV → List Value → Prop
  | nil : ExactL [] []
  | cons {x : PV} {u : Value} {xs : List PV} {us : List Value} (h : Exact x u) (k : ExactL xs us) : ExactL (x :: xs) (u :: us)
theorem ExactL.length {xs : List PV} {us : List Value} (h : ExactL xs us) : xs.length = us.length := by
  induction h with
  | nil => rfl
  | cons h k ih => simp [ih]
theorem ExactL.get {xs : List PV} {us : List Value} (h : ExactL xs us) : ∀ (i : Nat) (x : PV), xs[i]? = some x → ∃ u, us[i]? = some u ∧ Exact x u := by
  induction h with
  | nil => intro i x h; simp at h
  | cons h k ih =>
    intro i x hx
    cases i with
    | zero => simp at hx; subst hx; exact ⟨_, rfl, h⟩
    | succ i => simp at hx; obtain ⟨u, h1, h2⟩ := ih i x hx; exact ⟨u, by simpa using h1, h2⟩
/-- What is told of a call of values, which makes memory of its own alone, holds of a call of pure values. -/
theorem pcall_of_below_t {P : Program} {f : FuncId} {args : List PV} {vs : List Value} {r : PV} {v : Value} (he : ExactL args vs) (hr : Exact r v) (h : ∀ w, TabsOk w → Calls P f vs.toArray w fun e w' => e = .returned v ∧ Below w.heap.size w w') : PCall P f args r := by
  refine ⟨fun x hx => ?_, hr.1, fun c vals hi hs hl hv => ?_⟩
  · obtain ⟨i, hi⟩ := List.getElem?_of_mem hx
    obtain ⟨u, _, h2⟩ := he.get i x hi
    exact h2.1
  · have hvals : vals = vs.toArray := by
      apply Array.ext
      · rw [hl, he.length]; simp
      · intro i h1 h2
        have hlt : i < args.length := by rw [← hl]; exact h1
        obtain ⟨u, k1, k2⟩ := he.get i _ (List.getElem?_eq_getElem hlt)
        have := k2.2.1 c _ (hv i _ vals[i] (List.getElem?_eq_getElem hlt) (Array.getElem?_eq_getElem h1))
        rw [this]
        have h3 : i < vs.length := by simpa using h2
        rw [List.getElem?_eq_getElem h3] at k1
        simpa using k1.symm
    subst hvals
    refine (h c.w hi.wi.1).mono ?_
    rintro e w' ⟨rfl, hb⟩
    let c2 : Cx := { c with w := w' }
    have hst2 : Step c c2 := ⟨rfl, hb.os, hb.tape, hb.output, hb.size, Nat.le_refl _, fun b hb' _ => hb.block b hb', fun τ blk h _ => ⟨blk, h, rfl, rfl, rfl, rfl⟩, fun b h => .inl h, fun b cs e fz h => ⟨cs, fz, by rw [hb.block b (Array.getElem?_eq_some_iff.1 h).1]; exact h, rfl⟩⟩
    have hi2 : Inv c2 := ⟨fun τ blk h => by
      have hB := hi.blk τ blk h
      exact ⟨hB.gen, hB.void, fun p hp => (hB.heap p hp).move (fun x v h => h.step hst2) (hb.block _ (hB.heap p hp).lt)⟩, hi.notG, hi.inj, fun b hb' => Nat.lt_of_lt_of_le (hi.gLt b hb') hb.size, hi.wi.step hst2⟩
    exact ⟨v, r, c2, rfl, rfl, rfl, hi2, hst2, hr.2.2 c2⟩
theorem pcall_of_below {P : Program} {f : FuncId} {args : List PV} {vs : List Value} {r : PV} {v : Value} (he : ExactL args vs) (hr : Exact r v) (h : ∀ w, Calls P f vs.toArray w fun e w' => e = .returned v ∧ Below w.heap.size w w') : PCall P f args r :=
  pcall_of_below_t he hr fun w _ => h w
section
variable {P : Program} {ops : List Oper} {Q : PS → Prop} {rest : List Oper} {n : Nat} {tm : List (Nat × PV)} {S : List Blk}
/-- An operation's guard, parted. -/
theorem ps_split {o : Option Tmp} {op : Op} {ty : TypeId} {pos : String} {af : Array Edge} {j : Nat} {w b : Bool} (ht : b = true → Pops P ops Q (⟨o, op, ty, pos, af, some (j, w)⟩ :: rest) ⟨n, tm, S⟩) (hf : b = false → Pops P ops Q (⟨o, op, ty, pos, af, some (j, w)⟩ :: rest) ⟨n, tm, S⟩)
    (hb : guardPV ops ⟨n, tm, S⟩ j w = some b := by ((conv => lhs; whnf) <;> fail "no")) : Pops P ops Q (⟨o, op, ty, pos, af, some (j, w)⟩ :: rest) ⟨n, tm, S⟩ := by
  cases hb' : b
  · exact hf hb'
  · exact ht hb'
theorem pd_split {o : Option Tmp} {op : Op} {ty : TypeId} {pos : String} {af : Array Edge} {j : Nat} {w b : Bool} (ht : b = true → PStL P ops Q (⟨o, op, ty, pos, af, some (j, w)⟩ :: rest) ⟨n, tm, S⟩) (hf : b = false → PStL P ops Q (⟨o, op, ty, pos, af, some (j, w)⟩ :: rest) ⟨n, tm, S⟩)
    (hb : guardPV ops ⟨n, tm, S⟩ j w = some b := by ((conv => lhs; whnf) <;> fail "no")) : PStL P ops Q (⟨o, op, ty, pos, af, some (j, w)⟩ :: rest) ⟨n, tm, S⟩ := by
  cases hb' : b
  · exact hf hb'
  · exact ht hb'
/-- Results, one by one: out of a slot, out of a cell. -/
theorem res_tmp {t : Tmp} {x : PV} (h : look t tm = x := by ((conv => lhs; whnf) <;> fail "no")) : resPV P ⟨n, tm, S⟩ (.tmp t) = some x := by simp only [resPV, h]
theorem res_cella {a : Tmp} {t : TypeId} {m : Nat} [ha : AggT P t true] [hc : Cel P t m] {row cs : List PV} {τ g i off : Nat} (hx : look a tm = .ptr τ g i off := by ((conv => lhs; whnf) <;> fail "no")) (hr : rowAt? S τ g i = some row := by first | (simp only [rowAt?, List.getElem?_cons_zero, List.getElem?_cons_succ, if_true, ↓reduceIte]; first | exact rfl | assumption) | assumption) (hle : off + m ≤ row.length := by first | decide | (simp only [List.length_cons, List.length_nil]; omega) | omega)
    (hp : (row.drop off).take m = cs := by first | (simp only [List.drop_succ_cons, List.drop_zero, List.take_succ_cons, List.take_zero, List.take_nil]; exact rfl) | exact rfl) : resPV P ⟨n, tm, S⟩ (.cell a t) = some (.agg cs) := by
  simp only [resPV, hx, loadPV, hr, loadRow_agg ha.h hc.h hle, hp]
theorem res_cell {a : Tmp} {t : TypeId} [ha : AggT P t false] {row : List PV} {p : PV} {τ g i off : Nat} (hx : look a tm = .ptr τ g i off := by ((conv => lhs; whnf) <;> fail "no")) (hr : rowAt? S τ g i = some row := by first | (simp only [rowAt?, List.getElem?_cons_zero, List.getElem?_cons_succ, if_true, ↓reduceIte]; first | exact rfl | assumption) | assumption)
    (hp : row[off]? = some p := by ((conv => lhs; whnf) <;> fail "no")) : resPV P ⟨n, tm, S⟩ (.cell a t) = some p := by
  simp only [resPV, hx, loadPV, hr, loadRow_one ha.h hp]
theorem retPV_1 {σ : PS} {r : ResultVar} {x : PV} (h : resPV P σ r = some x) : retPV P σ [r] = some x := h
theorem retPV_2 {σ : PS} {r s : ResultVar} {x y : PV} (h : resPV P σ r = some x) (k : resPV P σ s = some y) : retPV P σ [r, s] = some (.tup [x, y]) := by simp [retPV, h, k]
theorem retPV_3 {σ : PS} {r s t : ResultVar} {x y z : PV} (h : resPV P σ r = some x) (k : resPV P σ s = some y) (l : resPV P σ t = some z) : retPV P σ [r, s, t] = some (.tup [x, y, z]) := by simp [retPV, h, k, l]
end
end Go.Proofs.YtenoecffjfcifaaDoor.Pv

-- Twenty-eighth text: a call that knows of some blocks alone.
namespace Go.Proofs.YtenoecffjfcifaaDoor.Pv
set_option linter.all false
open Go.RowKit
set_option linter.unusedVariables false

mutual
/-- Other numbers for the blocks. -/
def ren (f : Nat → Nat) : PV → PV
  | .v x => .v x
  | .ro sz full rows => .ro sz full rows
  | .rp row off => .rp row off
  | .vw τ g off len => .vw (f τ) g off len
  | .ptr τ g i off => .ptr (f τ) g i off
  | .sub τ g i off len => .sub (f τ) g i off len
  | .agg cs => .agg (renL f cs)
  | .tup cs => .tup (renL f cs)
  | .fn fn a b => .fn fn (renL f a) (renL f b)
  | .iface t x => .iface t (ren f x)
  | .mp τ g => .mp (f τ) g
  | .it τ g => .it (f τ) g
  | .rmp es => .rmp es
  | .undef => .undef
def renL (f : Nat → Nat) : List PV → List PV
  | [] => []
  | x :: xs => ren f x :: renL f xs
end
theorem renL_map (f : Nat → Nat) : ∀ l, renL f l = l.map (ren f)
  | [] => by rw [renL]; rfl
  | x :: l => by rw [renL, List.map_cons, renL_map f l]
def renB (f : Nat → Nat) (b : Blk) : Blk := { b with rows := b.rows.map (renL f) }
theorem renB_get {f : Nat → Nat} {b : Blk} {i j : Nat} {row : List PV} {x : PV} (h : (renB f b).rows[i]? = some row) (k : row[j]? = some x) : ∃ row0 x0, b.rows[i]? = some row0 ∧ row0[j]? = some x0 ∧ x = ren f x0 ∧ row = renL f row0 := by
  simp only [renB, List.getElem?_map] at h
  obtain ⟨row0, h1, rfl⟩ := Option.map_eq_some_iff.1 h
  rw [renL_map, List.getElem?_map] at k
  obtain ⟨x0, h2, rfl⟩ := Option.map_eq_some_iff.1 k
  exact ⟨row0, x0, h1, h2, rfl, rfl⟩
theorem renL_length (f : Nat → Nat) (l : List PV) : (renL f l).length = l.length := by rw [renL_map, List.length_map]

/-- Known under other numbers, known under these. -/
theorem ren_into {c c1 : Cx} {f : Nat → Nat} (hX : ∀ b, ¬ c.X b → ¬ c1.X b) (hw : c1.w = c.w) (hN : c.N = c1.N)
    (hv : ∀ τ blk, c1.S[τ]? = some blk → ∃ blk', c.S[f τ]? = some blk' ∧ blk'.gen = blk.gen ∧ blk'.sz = blk.sz ∧ blk'.rows.length = blk.rows.length ∧ c.β (f τ) = c1.β τ) {y : PV} {v : Value} (hr : RelV c y v) : ∀ x, y = ren f x → RelV c1 x v := by
  have hc : ∀ a u, ¬ c.X a.block → c.w.cell? a = some u → c1.w.cell? a = some u := fun a u _ h => by rw [hw]; exact h
  have hm : ∀ r arr ck, ¬ c.X r → c.w.heap[r]? = some (.map arr ck) → c1.w.heap[r]? = some (.map arr ck) := fun r arr ck _ h => by rw [hw]; exact h
  induction hr with
  | v u => intro x h; cases x <;> simp only [ren] at h <;> cases h; exact .v _
  | undef u => intro x h; cases x <;> simp only [ren] at h <;> cases h; exact .undef _
  | ro sz full rows a cap vals hcap hmax hfull hnone hlen hcell hpure hrel ih =>
    intro x h
    cases x <;> simp only [ren] at h <;> cases h
    exact (RelV.ro sz full rows a cap vals hcap hmax hfull hnone hlen hcell hpure hrel).pure (.ro fun row hr x hx => by
      obtain ⟨i, hi⟩ := List.getElem?_of_mem hr
      obtain ⟨j, hj⟩ := List.getElem?_of_mem hx
      exact hpure i row j x hi hj) hX hc hm
  | rp row off b o vals hcell hpure hrel ih =>
    intro x h
    cases x <;> simp only [ren] at h <;> cases h
    exact (RelV.rp row off b o vals hcell hpure hrel).pure (.rp fun x hx => by
      obtain ⟨j, hj⟩ := List.getElem?_of_mem hx
      exact hpure j x hj) hX hc hm
  | vw τ g off len y hy hNg hvw =>
    intro x h
    cases x <;> simp only [ren] at h <;> cases h
    rename_i τ
    refine .vw _ _ _ _ y hy (by rw [← hN]; exact hNg) (fun blk h1 h2 => ?_)
    obtain ⟨blk', k1, k2, k3, k4, k5⟩ := hv τ blk h1
    obtain ⟨g1, a, cap, g2, g3, g4, g5⟩ := hvw blk' k1 (k2.trans h2)
    refine ⟨by rw [← k4]; exact g1, a, cap, g2, g3, g4, ?_⟩
    rcases g5 with ⟨p, g5, g6, cs, e, fz, g7, g8⟩ | g5
    · exact .inl ⟨p, k5.symm.trans g5, by rw [g6, k3], cs, e, fz, by rw [hw]; exact g7, by rw [← k3]; exact g8⟩
    · exact .inr g5
  | ptr τ g i off y hy hNg hvw =>
    intro x h
    cases x <;> simp only [ren] at h <;> cases h
    rename_i τ
    refine .ptr _ _ _ _ y hy (by rw [← hN]; exact hNg) (fun blk h1 h2 => ?_)
    obtain ⟨blk', k1, k2, k3, k4, k5⟩ := hv τ blk h1
    obtain ⟨g1, p, g2, g3, cs, e, fz, g4⟩ := hvw blk' k1 (k2.trans h2)
    exact ⟨by rw [← k4]; exact g1, p, k5.symm.trans g2, by rw [g3, k3], cs, e, fz, by rw [hw]; exact g4⟩
  | sub τ g i off len y hy hNg hvw =>
    intro x h
    cases x <;> simp only [ren] at h <;> cases h
    rename_i τ
    refine .sub _ _ _ _ _ y hy (by rw [← hN]; exact hNg) (fun blk h1 h2 => ?_)
    obtain ⟨blk', k1, k2, k3, k4, k5⟩ := hv τ blk h1
    obtain ⟨g1, p, cap, g2, g3, cs, e, fz, g4⟩ := hvw blk' k1 (k2.trans h2)
    exact ⟨by rw [← k4]; exact g1, p, cap, k5.symm.trans g2, by rw [g3, k3], cs, e, fz, by rw [hw]; exact g4⟩
  | agg cs vs hs h1 hr ih =>
    intro x h
    cases x <;> simp only [ren] at h <;> cases h
    rename_i cs
    refine .agg cs vs (by rw [hs, renL_length]) h1 (fun i x v hx hv => ih i (ren f x) v (by rw [renL_map, List.getElem?_map, hx]; rfl) hv x rfl)
  | tup cs vs hs hr ih =>
    intro x h
    cases x <;> simp only [ren] at h <;> cases h
    rename_i cs
    refine .tup cs vs (by rw [hs, renL_length]) (fun i x v hx hv => ih i (ren f x) v (by rw [renL_map, List.getElem?_map, hx]; rfl) hv x rfl)
  | fn fn a b va vb hsa hsb ha hb iha ihb =>
    intro x h
    cases x <;> simp only [ren] at h <;> cases h
    rename_i a b
    exact .fn fn a b va vb (by rw [hsa, renL_length]) (by rw [hsb, renL_length]) (fun i x v hx hv => iha i (ren f x) v (by rw [renL_map, List.getElem?_map, hx]; rfl) hv x rfl) (fun i x v hx hv => ihb i (ren f x) v (by rw [renL_map, List.getElem?_map, hx]; rfl) hv x rfl)
  | iface t x v hr ih =>
    intro y h
    cases y <;> simp only [ren] at h <;> cases h
    exact .iface _ _ _ (ih _ rfl)
  | mp τ g y hy hNg hvw =>
    intro x h
    cases x <;> simp only [ren] at h <;> cases h
    rename_i τ
    refine .mp _ _ y hy (by rw [← hN]; exact hNg) (fun blk h1 h2 => ?_)
    obtain ⟨blk', k1, k2, k3, k4, k5⟩ := hv τ blk h1
    obtain ⟨p, g2, g3⟩ := hvw blk' k1 (k2.trans h2)
    exact ⟨p, k5.symm.trans g2, g3⟩
  | it τ g y hy hNg hvw =>
    intro x h
    cases x <;> simp only [ren] at h <;> cases h
    rename_i τ
    refine .it _ _ y hy (by rw [← hN]; exact hNg) (fun blk h1 h2 => ?_)
    obtain ⟨blk', k1, k2, k3, k4, k5⟩ := hv τ blk h1
    obtain ⟨p, g2, g3⟩ := hvw blk' k1 (k2.trans h2)
    exact ⟨p, k5.symm.trans g2, g3⟩
  | rmp es r arr ck hx hh he =>
    intro x h
    cases x <;> simp only [ren] at h <;> cases h
    exact .rmp _ r arr ck (hX r hx) (hm r arr ck hx hh) he
  | rnil =>
    intro x h
    cases x <;> simp only [ren] at h <;> cases h
    exact .rnil

theorem ren_out {c1 c2 : Cx} {f : Nat → Nat} (hX : ∀ b, ¬ c1.X b → ¬ c2.X b) (hw : c2.w = c1.w) (hN : c1.N = c2.N)
    (hv : ∀ τ blk2, c2.S[f τ]? = some blk2 → ∃ blk, c1.S[τ]? = some blk ∧ blk.gen = blk2.gen ∧ blk.sz = blk2.sz ∧ blk.rows.length = blk2.rows.length ∧ c1.β τ = c2.β (f τ)) {x : PV} {v : Value} (hr : RelV c1 x v) : RelV c2 (ren f x) v := by
  have hc : ∀ a u, ¬ c1.X a.block → c1.w.cell? a = some u → c2.w.cell? a = some u := fun a u _ h => by rw [hw]; exact h
  have hm : ∀ r arr ck, ¬ c1.X r → c1.w.heap[r]? = some (.map arr ck) → c2.w.heap[r]? = some (.map arr ck) := fun r arr ck _ h => by rw [hw]; exact h
  induction hr with
  | v u => simp only [ren]; exact .v _
  | undef u => simp only [ren]; exact .undef _
  | ro sz full rows a cap vals hcap hmax hfull hnone hlen hcell hpure hrel ih =>
    simp only [ren]
    exact (RelV.ro sz full rows a cap vals hcap hmax hfull hnone hlen hcell hpure hrel).pure (.ro fun row hr x hx => by
      obtain ⟨i, hi⟩ := List.getElem?_of_mem hr
      obtain ⟨j, hj⟩ := List.getElem?_of_mem hx
      exact hpure i row j x hi hj) hX hc hm
  | rp row off b o vals hcell hpure hrel ih =>
    simp only [ren]
    exact (RelV.rp row off b o vals hcell hpure hrel).pure (.rp fun x hx => by
      obtain ⟨j, hj⟩ := List.getElem?_of_mem hx
      exact hpure j x hj) hX hc hm
  | vw τ g off len y hy hNg hvw =>
    simp only [ren]
    refine .vw _ _ _ _ y hy (by rw [← hN]; exact hNg) (fun blk h1 h2 => ?_)
    obtain ⟨blk', k1, k2, k3, k4, k5⟩ := hv τ blk h1
    obtain ⟨g1, a, cap, g2, g3, g4, g5⟩ := hvw blk' k1 (k2.trans h2)
    refine ⟨by rw [← k4]; exact g1, a, cap, g2, g3, g4, ?_⟩
    rcases g5 with ⟨p, g5, g6, cs, e, fz, g7, g8⟩ | g5
    · exact .inl ⟨p, k5.symm.trans g5, by rw [g6, k3], cs, e, fz, by rw [hw]; exact g7, by rw [← k3]; exact g8⟩
    · exact .inr g5
  | ptr τ g i off y hy hNg hvw =>
    simp only [ren]
    refine .ptr _ _ _ _ y hy (by rw [← hN]; exact hNg) (fun blk h1 h2 => ?_)
    obtain ⟨blk', k1, k2, k3, k4, k5⟩ := hv τ blk h1
    obtain ⟨g1, p, g2, g3, cs, e, fz, g4⟩ := hvw blk' k1 (k2.trans h2)
    exact ⟨by rw [← k4]; exact g1, p, k5.symm.trans g2, by rw [g3, k3], cs, e, fz, by rw [hw]; exact g4⟩
  | sub τ g i off len y hy hNg hvw =>
    simp only [ren]
    refine .sub _ _ _ _ _ y hy (by rw [← hN]; exact hNg) (fun blk h1 h2 => ?_)
    obtain ⟨blk', k1, k2, k3, k4, k5⟩ := hv τ blk h1
    obtain ⟨g1, p, cap, g2, g3, cs, e, fz, g4⟩ := hvw blk' k1 (k2.trans h2)
    exact ⟨by rw [← k4]; exact g1, p, cap, k5.symm.trans g2, by rw [g3, k3], cs, e, fz, by rw [hw]; exact g4⟩
  | agg cs vs hs h1 hr ih =>
    simp only [ren]
    refine .agg _ vs (by rw [hs, renL_length]) h1 (fun i x v hx hv => ?_)
    rw [renL_map, List.getElem?_map] at hx
    obtain ⟨x0, h2, rfl⟩ := Option.map_eq_some_iff.1 hx
    exact ih i x0 v h2 hv
  | tup cs vs hs hr ih =>
    simp only [ren]
    refine .tup _ vs (by rw [hs, renL_length]) (fun i x v hx hv => ?_)
    rw [renL_map, List.getElem?_map] at hx
    obtain ⟨x0, h2, rfl⟩ := Option.map_eq_some_iff.1 hx
    exact ih i x0 v h2 hv
  | fn fn a b va vb hsa hsb ha hb iha ihb =>
    simp only [ren]
    refine .fn fn _ _ va vb (by rw [hsa, renL_length]) (by rw [hsb, renL_length]) (fun i x v hx hv => ?_) (fun i x v hx hv => ?_)
    · rw [renL_map, List.getElem?_map] at hx
      obtain ⟨x0, h2, rfl⟩ := Option.map_eq_some_iff.1 hx
      exact iha i x0 v h2 hv
    · rw [renL_map, List.getElem?_map] at hx
      obtain ⟨x0, h2, rfl⟩ := Option.map_eq_some_iff.1 hx
      exact ihb i x0 v h2 hv
  | iface t x v hr ih =>
    simp only [ren]
    exact .iface _ _ _ ih
  | mp τ g y hy hNg hvw =>
    simp only [ren]
    refine .mp _ _ y hy (by rw [← hN]; exact hNg) (fun blk h1 h2 => ?_)
    obtain ⟨blk', k1, k2, k3, k4, k5⟩ := hv τ blk h1
    obtain ⟨p, g2, g3⟩ := hvw blk' k1 (k2.trans h2)
    exact ⟨p, k5.symm.trans g2, g3⟩
  | it τ g y hy hNg hvw =>
    simp only [ren]
    refine .it _ _ y hy (by rw [← hN]; exact hNg) (fun blk h1 h2 => ?_)
    obtain ⟨blk', k1, k2, k3, k4, k5⟩ := hv τ blk h1
    obtain ⟨p, g2, g3⟩ := hvw blk' k1 (k2.trans h2)
    exact ⟨p, k5.symm.trans g2, g3⟩
  | rmp es r arr ck hx hh he =>
    simp only [ren]
    exact .rmp _ r arr ck (hX r hx) (hm r arr ck hx hh) he
  | rnil =>
    simp only [ren]
    exact .rnil

/-- The blocks that a call knows of lie at e; what it makes lies behind all. -/
def sg : List Nat → Nat → Nat → Nat
  | [], m, τ => m + τ
  | a :: _, _, 0 => a
  | _ :: e, m, τ + 1 => sg e m τ
def putB : List Nat → List Blk → List Blk → List Blk
  | [], bs, Sb => Sb ++ bs
  | a :: e, [], Sb => Sb
  | a :: e, b :: bs, Sb => putB e bs (Sb.set a b)
theorem putB_length : ∀ (e : List Nat) (bs Sb : List Blk), e.length ≤ bs.length → (putB e bs Sb).length = Sb.length + (bs.length - e.length)
  | [], bs, Sb, _ => by simp [putB]
  | a :: e, [], Sb, h => by simp at h
  | a :: e, b :: bs, Sb, h => by
    simp only [List.length_cons] at h
    rw [putB, putB_length e bs _ (by omega), List.length_set, List.length_cons, List.length_cons]
    omega
theorem putB_at : ∀ (e : List Nat) (bs Sb : List Blk) (i a : Nat), e.Nodup → (∀ a ∈ e, a < Sb.length) → e.length ≤ bs.length → e[i]? = some a → (putB e bs Sb)[a]? = bs[i]?
  | [], bs, Sb, i, a, _, _, _, h => by simp at h
  | a0 :: e, [], Sb, i, a, _, _, hl, h => by simp at hl
  | a0 :: e, b :: bs, Sb, i, a, hn, hb, hl, h => by
    rw [List.nodup_cons] at hn
    simp only [List.length_cons] at hl
    rw [putB]
    cases i with
    | succ i =>
      rw [List.getElem?_cons_succ] at h ⊢
      exact putB_at e bs _ i a hn.2 (fun x hx => by rw [List.length_set]; exact hb x (by simp [hx])) (by omega) h
    | zero =>
      simp only [List.getElem?_cons_zero, Option.some.injEq] at h ⊢
      subst h
      have key : ∀ (e : List Nat) (bs Sb : List Blk), e.length ≤ bs.length → a0 ∉ e → a0 < Sb.length → (putB e bs Sb)[a0]? = Sb[a0]? := by
        intro e
        induction e with
        | nil => intro bs Sb _ _ h; rw [putB, List.getElem?_append_left h]
        | cons x e ih =>
          intro bs Sb hl hx h
          cases bs with
          | nil => simp at hl
          | cons y bs =>
            simp only [List.length_cons] at hl
            simp only [List.mem_cons, not_or] at hx
            rw [putB, ih bs _ (by omega) hx.2 (by rw [List.length_set]; exact h), List.getElem?_set, if_neg (fun e => hx.1 e.symm)]
      rw [key e bs _ (by omega) hn.1 (by rw [List.length_set]; exact hb _ (by simp)), List.getElem?_set, if_pos rfl, if_pos (hb _ (by simp))]
theorem putB_else : ∀ (e : List Nat) (bs Sb : List Blk) (a : Nat), e.length ≤ bs.length → a ∉ e → a < Sb.length → (putB e bs Sb)[a]? = Sb[a]?
  | [], bs, Sb, a, _, _, h => by rw [putB, List.getElem?_append_left h]
  | x :: e, [], Sb, a, hl, _, _ => by simp at hl
  | x :: e, y :: bs, Sb, a, hl, hx, h => by
    simp only [List.length_cons] at hl
    simp only [List.mem_cons, not_or] at hx
    rw [putB, putB_else e bs _ a (by omega) hx.2 (by rw [List.length_set]; exact h), List.getElem?_set, if_neg (fun e => hx.1 e.symm)]
theorem putB_new : ∀ (e : List Nat) (bs Sb : List Blk) (a : Nat), e.length ≤ bs.length → Sb.length ≤ a → (putB e bs Sb)[a]? = bs[e.length + (a - Sb.length)]?
  | [], bs, Sb, a, _, h => by rw [putB, List.getElem?_append_right h]; simp
  | x :: e, [], Sb, a, hl, _ => by simp at hl
  | x :: e, y :: bs, Sb, a, hl, h => by
    simp only [List.length_cons] at hl
    rw [putB, putB_new e bs _ a (by omega) (by rw [List.length_set]; exact h), List.length_set, List.length_cons, show e.length + 1 + (a - Sb.length) = (e.length + (a - Sb.length)) + 1 by omega, List.getElem?_cons_succ]
end Go.Proofs.YtenoecffjfcifaaDoor.Pv

-- Twenty-ninth text: a call that knows of some blocks alone, made where there are more.
namespace Go.Proofs.YtenoecffjfcifaaDoor.Pv
set_option linter.all false
open Go.RowKit
set_option linter.unusedVariables false
def pos : List Nat → Nat → Option Nat
  | [], _ => none
  | x :: e, a => if x = a then some 0 else (pos e a).map (· + 1)
theorem pos_some : ∀ {e : List Nat} {a i : Nat}, pos e a = some i → e[i]? = some a
  | [], a, i, h => by simp [pos] at h
  | x :: e, a, i, h => by
    unfold pos at h
    split at h
    · rename_i h1; cases h; rw [h1]; rfl
    · obtain ⟨j, h2, rfl⟩ := Option.map_eq_some_iff.1 h
      rw [List.getElem?_cons_succ]
      exact pos_some h2
theorem pos_none : ∀ {e : List Nat} {a : Nat}, pos e a = none → a ∉ e
  | [], a, _ => by simp
  | x :: e, a, h => by
    unfold pos at h
    split at h
    · cases h
    · rename_i h1
      have := pos_none (e := e) (a := a) (by simpa using h)
      simp only [List.mem_cons, not_or]
      exact ⟨fun h => h1 h.symm, this⟩
theorem nodup_get {e : List Nat} (hn : e.Nodup) {i j a : Nat} (h : e[i]? = some a) (k : e[j]? = some a) : i = j := by
  exact (List.getElem?_inj (List.getElem?_eq_some_iff.1 h).1 hn).1 (h.trans k.symm)
theorem pos_of {e : List Nat} (hn : e.Nodup) {i a : Nat} (h : e[i]? = some a) : pos e a = some i := by
  cases hp : pos e a with
  | none => exact absurd (List.mem_of_getElem? h) (pos_none hp)
  | some j => rw [nodup_get hn (pos_some hp) h]
theorem sg_at : ∀ {e : List Nat} {m i a : Nat}, e[i]? = some a → sg e m i = a
  | [], m, i, a, h => by simp at h
  | x :: e, m, 0, a, h => by simp at h; subst h; rfl
  | x :: e, m, i + 1, a, h => by rw [sg]; exact sg_at (by simpa using h)
theorem sg_new : ∀ {e : List Nat} {m i : Nat}, e.length ≤ i → sg e m i = m + (i - e.length)
  | [], m, i, h => by rw [sg]; simp
  | x :: e, m, 0, h => by simp at h
  | x :: e, m, i + 1, h => by
    rw [sg, sg_new (by simpa using h), List.length_cons]
    omega
theorem sg_inj {e : List Nat} {m i j : Nat} (hn : e.Nodup) (hb : ∀ a ∈ e, a < m) (h : sg e m i = sg e m j) : i = j := by
  rcases Nat.lt_or_ge i e.length with hi | hi
  · have h1 := List.getElem?_eq_getElem hi
    rcases Nat.lt_or_ge j e.length with hj | hj
    · have h2 := List.getElem?_eq_getElem hj
      rw [sg_at h1, sg_at h2] at h
      rw [h] at h1
      exact nodup_get hn h1 h2
    · rw [sg_at h1, sg_new hj] at h
      have := hb _ (List.getElem_mem hi)
      omega
  · rcases Nat.lt_or_ge j e.length with hj | hj
    · have h2 := List.getElem?_eq_getElem hj
      rw [sg_new hi, sg_at h2] at h
      have := hb _ (List.getElem_mem hj)
      omega
    · rw [sg_new hi, sg_new hj] at h
      omega

theorem ren_map_row {f : Nat → Nat} {rows : List (List PV)} {es : List (ByteArray × Int)} (h : rows.map (renL f) = [[.rmp es]]) : rows = [[.rmp es]] := by
  match rows, h with
  | [row], h =>
    simp only [List.map_cons, List.map_nil, List.cons.injEq, and_true] at h
    match row, h with
    | [x], h =>
      simp only [renL, List.cons.injEq, and_true] at h
      cases x <;> simp only [ren] at h <;> cases h
      rfl
    | [], h => simp [renL] at h
    | x :: y :: l, h => simp [renL] at h
  | [], h => simp at h
  | a :: b :: l, h => simp at h

theorem ObjOk.unren {w : World} {r : Nat} {f : Nat → Nat} {rows : List (List PV)} (h : ObjOk w r (rows.map (renL f))) : ObjOk w r rows := by
  rcases h with ⟨es, arr, ck, h1, h2, h3⟩ | ⟨s, pos, h1, h2⟩
  · exact .inl ⟨es, arr, ck, ren_map_row h1, h2, h3⟩
  · refine .inr ⟨s, pos, ?_, h2⟩
    match rows, h1 with
    | [[x, y]], h1 =>
      simp only [List.map_cons, List.map_nil, renL, List.cons.injEq, and_true] at h1
      obtain ⟨h1, h2⟩ := h1
      cases x <;> simp [ren] at h1
      cases y <;> simp [ren] at h2
      rw [h1, h2]
    | [], h1 => simp at h1
    | [[]], h1 => simp [renL] at h1
    | [[_]], h1 => simp [renL] at h1
    | [_ :: _ :: _ :: _], h1 => simp [renL] at h1
    | _ :: _ :: _, h1 => simp at h1
theorem ObjOk.rened {w : World} {r : Nat} {f : Nat → Nat} {rows : List (List PV)} (h : ObjOk w r rows) : ObjOk w r (rows.map (renL f)) := by
  rcases h with ⟨es, arr, ck, rfl, h2, h3⟩ | ⟨s, pos, rfl, h2⟩
  · exact .inl ⟨es, arr, ck, by simp [renL, ren], h2, h3⟩
  · exact .inr ⟨s, pos, by simp [renL, ren], h2⟩
theorem gcall_frame {P : Program} {f : FuncId} {args : List PV} {S : List Blk} {R : PV → List Blk → Prop} (h : GCall P f args S R) (e : List Nat) {Sb : List Blk} (hn : e.Nodup) (hl : e.length = S.length) (hb : ∀ a ∈ e, a < Sb.length)
    (hS : ∀ (i a : Nat), e[i]? = some a → Sb[a]? = (S[i]?).map (renB (sg e Sb.length))) (hR : ∀ x S', R x S' → S.length ≤ S'.length) :
    GCall P f (renL (sg e Sb.length) args) Sb (fun x' Sb' => ∃ x S', R x S' ∧ x' = ren (sg e Sb.length) x ∧ Sb' = putB e (S'.map (renB (sg e Sb.length))) Sb) := by
  intro c vals hi hs hlen hv
  subst hs
  generalize hf0 : sg e c.S.length = f0 at *
  have sgE : ∀ {i a : Nat}, e[i]? = some a → f0 i = a := fun h => by rw [← hf0]; exact sg_at h
  let c1 : Cx := { w := c.w, G := fun b => c.X b ∧ ¬ ∃ (i a : Nat) (p : Nat × Nat), e[i]? = some a ∧ c.β a = some p ∧ p.1 = b, β := fun τ => (e[τ]?).bind c.β, S := S, N := c.N }
  have ent1 : ∀ {τ : Nat} {blk : Blk}, S[τ]? = some blk → ∃ a : Nat, e[τ]? = some a ∧ c.S[a]? = some (renB f0 blk) ∧ c1.β τ = c.β a := by
    intro τ blk hb1
    have hlt : τ < e.length := by rw [hl]; exact (List.getElem?_eq_some_iff.1 hb1).1
    have he := List.getElem?_eq_getElem hlt
    refine ⟨e[τ], he, ?_, by simp [c1, he]⟩
    rw [hS τ _ he, hb1]; rfl
  have imgB : ∀ {i a : Nat}, e[i]? = some a → ∃ blk, S[i]? = some blk ∧ c.S[a]? = some (renB f0 blk) := by
    intro i a he
    have hlt : i < S.length := by rw [← hl]; exact (List.getElem?_eq_some_iff.1 he).1
    refine ⟨S[i], List.getElem?_eq_getElem hlt, ?_⟩
    rw [hS i a he, List.getElem?_eq_getElem hlt]; rfl
  have own1 : ∀ {b : Nat}, c1.Own b → ∃ (i a : Nat) (blk : Blk) (p : Nat × Nat), e[i]? = some a ∧ c.S[a]? = some (renB f0 blk) ∧ blk.own = true ∧ c.β a = some p ∧ p.1 = b := by
    rintro b ⟨τ, blk, p, h1, h2, h3, h4⟩
    obtain ⟨a, k1, k2, k3⟩ := ent1 h1
    exact ⟨τ, a, blk, p, k1, k2, h2, by rw [← k3]; exact h3, h4⟩
  have ownc : ∀ {b : Nat}, c1.Own b → c.Own b := fun h => by
    obtain ⟨i, a, blk, p, k1, k2, k3, k4, k5⟩ := own1 h
    exact ⟨a, _, p, k2, k3, k4, k5⟩
  have hX1 : ∀ b, ¬ c.X b → ¬ c1.X b := by
    rintro b hx (h1 | h1)
    · exact hx h1.1
    · exact hx (.inr (ownc h1))
  have hview1 : ∀ (τ : Nat) (blk : Blk), c1.S[τ]? = some blk → ∃ blk', c.S[f0 τ]? = some blk' ∧ blk'.gen = blk.gen ∧ blk'.sz = blk.sz ∧ blk'.rows.length = blk.rows.length ∧ c.β (f0 τ) = c1.β τ := by
    intro τ blk h1
    obtain ⟨a, k1, k2, k3⟩ := ent1 h1
    rw [sgE k1]
    exact ⟨_, k2, rfl, rfl, by simp [renB], k3.symm⟩
  have into : ∀ {x : PV} {v : Value}, RelV c (ren f0 x) v → RelV c1 x v := fun hr => ren_into hX1 rfl rfl hview1 hr _ rfl
  have hi1 : Inv c1 := by
    refine ⟨fun τ blk h1 => ?_, fun τ blk p h1 h2 hg => ?_, fun τ τ' b b' p p' h1 h2 h3 h4 h5 h6 => ?_, fun b hg => ?_, hi.wi.sub rfl fun b h => ownc h⟩
    · obtain ⟨a, k1, k2, k3⟩ := ent1 h1
      have hB := hi.blk a _ k2
      refine ⟨hB.gen, fun hv => ?_, fun p hp => ?_⟩
      · have := hB.void (by rw [← k3]; exact hv)
        simpa [renB] using this
      · rcases hB.heap p (by rw [← k3]; exact hp) with ⟨hl, cs, et, fz, g1, g2, g3, g4⟩ | ⟨hz, ho⟩
        · refine .inl ⟨fun i row hr => ?_, cs, et, fz, g1, by simpa [renB] using g2, fun i row j x r1 r2 => ?_, g4⟩
          · have := hl i (renL f0 row) (by simp [renB, hr])
            rw [renL_length] at this
            exact this
          · obtain ⟨v, v1, v2, v3⟩ := g3 i (renL f0 row) j (ren f0 x) (by simp [renB, r1]) (by rw [renL_map, List.getElem?_map, r2]; rfl)
            exact ⟨v, v1, v2, into v3⟩
        · exact .inr ⟨hz, ObjOk.unren ho⟩
    · obtain ⟨a, k1, k2, k3⟩ := ent1 h1
      exact hg.2 ⟨τ, a, p, k1, by rw [← k3]; exact h2, rfl⟩
    · obtain ⟨a, k1, k2, k3⟩ := ent1 h1
      obtain ⟨a', k1', k2', k3'⟩ := ent1 h2
      have := hi.inj a a' _ _ p p' k2 k2' h3 (by rw [← k3]; exact h4) (by rw [← k3']; exact h5) h6
      subst this
      exact nodup_get hn k1 k1'
    · rcases hg.1 with h1 | h1
      · exact hi.gLt b h1
      · exact Cx.Own.lt hi h1
  refine (h c1 vals hi1 rfl (by rw [hlen, renL_length]) (fun i x v h1 h2 => into (hv i (ren f0 x) v (by rw [renL_map, List.getElem?_map, h1]; rfl) h2))).mono ?_
  rintro en w' ⟨v, x, c1', rfl, rfl, hRx, hi', hst, hrel⟩
  have hSl := hR x c1'.S hRx
  have hSl' : e.length ≤ (c1'.S.map (renB f0)).length := by rw [List.length_map, hl]; exact hSl
  let c' : Cx := { w := c1'.w, G := c.G, β := fun t => if t < c.S.length then (match pos e t with | some i => c1'.β i | none => c.β t) else c1'.β (e.length + (t - c.S.length)), S := putB e (c1'.S.map (renB f0)) c.S, N := c1'.N }
  have get : ∀ {t : Nat} {blk' : Blk}, c'.S[t]? = some blk' → (∃ (τ : Nat) (b : Blk), f0 τ = t ∧ c1'.S[τ]? = some b ∧ blk' = renB f0 b ∧ c'.β t = c1'.β τ) ∨ (c.S[t]? = some blk' ∧ t ∉ e ∧ t < c.S.length ∧ c'.β t = c.β t) := by
    intro t blk' h1
    rcases Nat.lt_or_ge t c.S.length with ht | ht
    · cases hp : pos e t with
      | some i =>
        have he := pos_some hp
        have h2 : (putB e (c1'.S.map (renB f0)) c.S)[t]? = some blk' := h1
        rw [putB_at e _ _ i t hn hb hSl' he, List.getElem?_map] at h2
        obtain ⟨b, h3, rfl⟩ := Option.map_eq_some_iff.1 h2
        exact .inl ⟨i, b, sgE he, h3, rfl, by simp [c', ht, hp]⟩
      | none =>
        have hne := pos_none hp
        have h2 : (putB e (c1'.S.map (renB f0)) c.S)[t]? = some blk' := h1
        rw [putB_else e _ _ t hSl' hne ht] at h2
        exact .inr ⟨h2, hne, ht, by simp [c', ht, hp]⟩
    · have h2 : (putB e (c1'.S.map (renB f0)) c.S)[t]? = some blk' := h1
      rw [putB_new e _ _ t hSl' ht, List.getElem?_map] at h2
      obtain ⟨b, h3, rfl⟩ := Option.map_eq_some_iff.1 h2
      refine .inl ⟨e.length + (t - c.S.length), b, ?_, h3, rfl, ?_⟩
      · rw [← hf0, sg_new (by omega)]; omega
      · simp [c', show ¬ t < c.S.length by omega]
  have hinj : ∀ {i j : Nat}, f0 i = f0 j → i = j := fun h => by rw [← hf0] at h; exact sg_inj hn hb h
  have notIn : ∀ {τ : Nat}, f0 τ ∉ e → ¬ f0 τ < c.S.length := by
    intro τ h1 h2
    rcases Nat.lt_or_ge τ e.length with h3 | h3
    · have := List.getElem?_eq_getElem h3
      rw [sgE this] at h1
      exact h1 (List.getElem_mem h3)
    · rw [← hf0, sg_new h3] at h2
      omega
  have gG : ∀ {b : Nat}, c.G b → c1'.G b := by
    intro b hg
    rw [hst.G]
    refine ⟨.inl hg, ?_⟩
    rintro ⟨i, a, p, k1, k2, rfl⟩
    obtain ⟨blk, _, k3⟩ := imgB k1
    exact hi.notG a _ p k3 k2 hg
  have oG : ∀ {t : Nat} {blk : Blk} {p : Nat × Nat}, c.S[t]? = some blk → t ∉ e → blk.own = true → c.β t = some p → c1'.G p.1 := by
    intro t blk p h1 h2 h3 h4
    rw [hst.G]
    refine ⟨.inr ⟨t, blk, p, h1, h3, h4, rfl⟩, ?_⟩
    rintro ⟨i, a, q, k1, k2, k3⟩
    obtain ⟨blk', _, k4⟩ := imgB k1
    have := hi.inj t a _ _ p q h1 k4 h3 h4 k2 k3.symm
    subst this
    exact h2 (List.mem_of_getElem? k1)
  have notOwn : ∀ {t : Nat} {blk : Blk} {p : Nat × Nat}, c.S[t]? = some blk → t ∉ e → c.β t = some p → ¬ c1.Own p.1 := by
    intro t blk p h1 h2 h3 h4
    obtain ⟨i, a, blk', q, k1, k2, k3, k4, k5⟩ := own1 h4
    have := hi.inj a t _ _ q p k2 h1 k3 k4 h3 k5
    subst this
    exact h2 (List.mem_of_getElem? k1)
  have hstep : Step c c' := by
    refine ⟨rfl, hst.os, hst.tape, hst.output, hst.size, hst.N, fun b hb1 ho => hst.blocks b hb1 (fun h => ho (ownc h)), fun t blk' h1 hg => ?_, fun b ho => ?_, hst.cells⟩
    · rcases get h1 with ⟨τ, b, rfl, h2, rfl, h3⟩ | ⟨h2, h3, h4, h5⟩
      · obtain ⟨blk, k1, k2, k3, k4, k5⟩ := hst.ent τ b h2 hg
        obtain ⟨a, g1, g2, g3⟩ := ent1 k1
        rw [sgE g1] at h3 ⊢
        exact ⟨_, g2, k2, by rw [h3, k3, g3], k4, by simpa [renB] using k5⟩
      · exact ⟨blk', h2, rfl, h5, rfl, rfl⟩
    · obtain ⟨t, blk', p, h1, h2, h3, rfl⟩ := ho
      rcases get h1 with ⟨τ, b, rfl, k2, rfl, k3⟩ | ⟨k2, k3, k4, k5⟩
      · rcases hst.own p.1 ⟨τ, b, p, k2, h2, by rw [← k3]; exact h3, rfl⟩ with g | g
        · exact .inl (ownc g)
        · exact .inr g
      · exact .inl ⟨t, blk', p, k2, h2, by rw [← k5]; exact h3, rfl⟩
  have hX2 : ∀ b, ¬ c1'.X b → ¬ c'.X b := by
    rintro b hx (h1 | h1)
    · exact hx (.inl (gG h1))
    · obtain ⟨t, blk', p, h1, h2, h3, rfl⟩ := h1
      rcases get h1 with ⟨τ, b, rfl, k2, rfl, k3⟩ | ⟨k2, k3, k4, k5⟩
      · exact hx (.inr ⟨τ, b, p, k2, h2, by rw [← k3]; exact h3, rfl⟩)
      · exact hx (.inl (oG k2 k3 h2 (by rw [← k5]; exact h3)))
  have hview2 : ∀ (τ : Nat) (blk2 : Blk), c'.S[f0 τ]? = some blk2 → ∃ blk, c1'.S[τ]? = some blk ∧ blk.gen = blk2.gen ∧ blk.sz = blk2.sz ∧ blk.rows.length = blk2.rows.length ∧ c1'.β τ = c'.β (f0 τ) := by
    intro τ blk2 h1
    rcases get h1 with ⟨τ', b, h2, h3, rfl, h4⟩ | ⟨h2, h3, h4, h5⟩
    · obtain rfl := hinj h2
      exact ⟨b, h3, rfl, rfl, by simp [renB], h4.symm⟩
    · exact absurd h4 (notIn h3)
  have out : ∀ {x : PV} {v : Value}, RelV c1' x v → RelV c' (ren f0 x) v := fun hr => ren_out hX2 rfl rfl hview2 hr
  refine ⟨v, ren f0 x, c', rfl, rfl, ⟨x, c1'.S, hRx, rfl, rfl⟩, ?_, hstep, out hrel⟩
  refine ⟨fun t blk' h1 => ?_, fun t blk' p h1 h2 hg => ?_, fun t t' b1 b2 p p' h1 h2 h3 h4 h5 h6 => ?_, fun b hg => Nat.lt_of_lt_of_le (hi.gLt b hg) hst.size, hi.wi.step hstep⟩
  · rcases get h1 with ⟨τ, b, rfl, h2, rfl, h3⟩ | ⟨h2, h3, h4, h5⟩
    · have hB := hi'.blk τ b h2
      refine ⟨hB.gen, fun hv => ?_, fun p hp => ?_⟩
      · have := hB.void (by rw [← h3]; exact hv)
        simp [renB, this]
      · rcases hB.heap p (by rw [← h3]; exact hp) with ⟨hl, cs, et, fz, g1, g2, g3, g4⟩ | ⟨hz, ho⟩
        · refine .inl ⟨fun i row hr => ?_, cs, et, fz, g1, by simpa [renB] using g2, fun i row j x r1 r2 => ?_, g4⟩
          · simp only [renB, List.getElem?_map] at hr
            obtain ⟨row0, k1, rfl⟩ := Option.map_eq_some_iff.1 hr
            rw [renL_length]
            exact hl i row0 k1
          · obtain ⟨row0, x0, k1, k2, rfl, rfl⟩ := renB_get r1 r2
            obtain ⟨v, v1, v2, v3⟩ := g3 i row0 j x0 k1 k2
            exact ⟨v, v1, v2, out v3⟩
        · exact .inr ⟨hz, ObjOk.rened ho⟩
    · have hB := hi.blk t blk' h2
      refine ⟨Nat.lt_of_lt_of_le hB.gen hst.N, fun hv => hB.void (by rw [← h5]; exact hv), fun p hp => ?_⟩
      rw [h5] at hp
      exact (hB.heap p hp).move (fun x v h => h.step hstep) (hst.blocks p.1 (hB.heap p hp).lt (notOwn h2 h3 hp))
  · rcases get h1 with ⟨τ, b, rfl, k2, rfl, k3⟩ | ⟨k2, k3, k4, k5⟩
    · exact hi'.notG τ b p k2 (by rw [← k3]; exact h2) (gG hg)
    · exact hi.notG t blk' p k2 (by rw [← k5]; exact h2) hg
  · rcases get h1 with ⟨τ, b, rfl, k2, rfl, k3⟩ | ⟨k2, k3, k4, k5⟩
    · rcases get h2 with ⟨τ', b', rfl, g2, rfl, g3⟩ | ⟨g2, g3, g4, g5⟩
      · rw [hi'.inj τ τ' b b' p p' k2 g2 h3 (by rw [← k3]; exact h4) (by rw [← g3]; exact h5) h6]
      · rw [g5] at h5
        rcases hst.own p.1 ⟨τ, b, p, k2, h3, by rw [← k3]; exact h4, rfl⟩ with g | g
        · rw [h6] at g
          exact absurd g (notOwn g2 g3 h5)
        · have := ((hi.blk t' b2 g2).heap p' h5).lt
          have hsz : c1.w.heap.size = c.w.heap.size := rfl
          omega
    · rw [k5] at h4
      rcases get h2 with ⟨τ', b', rfl, g2, rfl, g3⟩ | ⟨g2, g3, g4, g5⟩
      · have := oG k2 k3 h3 h4
        rw [h6] at this
        exact absurd this (hi'.notG τ' b' p' g2 (by rw [← g3]; exact h5))
      · rw [g5] at h5
        exact hi.inj t t' b1 b2 p p' k2 g2 h3 h4 h5 h6
end Go.Proofs.YtenoecffjfcifaaDoor.Pv

-- Thirtieth text: copy.
namespace Go.Proofs.YtenoecffjfcifaaDoor.Pv
set_option linter.all false
open Go.RowKit
set_option linter.unusedVariables false
theorem copy_exec {P : Program} {a : Act} {o : Oper} {s x : Operand} {t tx : TypeId} {w w' : World} {v' : Value} (ho : o.op = .call { callee := .builtin .copy, args := #[s, x], argTypes := #[t, tx] })
    (hr : (Builtin.copy_ #[t, tx] o.type #[a.eval s, a.eval x]).run P w = .ok v' w') : (execOp a.eval o).run P w = .ok (.value v') w' := by
  simp only [execOp, ho, resolve, invoke, builtin, Sem.run_bind, Sem.run_pure, Result.andThen_ok, List.map_toArray, List.map_cons, List.map_nil, hr]
set_option maxHeartbeats 1600000 in
theorem pop_copy {P : Program} {σ : PS} {o : Oper} {K : PV → List Blk → Prop} {s x : Operand} {t tx e : TypeId} {rows : List (List PV)} {τ g off len m sz : Nat} {blk : Blk} (ho : o.op = .call { callee := .builtin .copy, args := #[s, x], argTypes := #[t, tx] })
    (ht : P.underlying t = some (.slice e)) (hke : known P e = true) (hsz : P.cellsOf e = sz) (hk : srcKind P tx (σ.get x) = true) (hsrc : srcRows σ.S sz (σ.get x) = some rows)
    (hd : σ.get s = .vw τ g off len) (hb : σ.S[τ]? = some blk) (hg : blk.gen = g) (hown : blk.own = true) (hbs : blk.sz = sz) (hm : min rows.length len = m)
    (hK : K (.v (.int .i64 m)) (σ.S.set τ { blk with rows := blk.rows.take off ++ rows.take m ++ blk.rows.drop (off + m) })) : PopSem P σ o K :=
  pop_of_run fun c a r => by
    obtain ⟨ed, hed⟩ := Option.isSome_iff_exists.1 hke
    rw [← r.S] at hsrc hK hb
    obtain ⟨news, fn, hs, hfc⟩ := src_rel r.inv hsrc hk (r.get x)
    have hds := r.get s
    rw [hd] at hds
    have hB := r.inv.blk τ blk hb
    generalize hav : a.eval s = vs at hds
    cases hds with
    | vw _ _ _ _ _ hy hN hv =>
      obtain ⟨hol, base, cap, rfl, hcap, hcm, hdis⟩ := hv blk hb hg
      have hmr : m ≤ rows.length := by omega
      have hml : m ≤ len := by omega
      have hmin : Nat.min rows.length len = m := hm
      have hfm := hfc m hmr
      have hst0 : Step c c := .refl c
      rcases hdis with ⟨p, hp, rfl, cs, e', fz, k1, k2⟩ | ⟨h0, hc0⟩
      · obtain ⟨hBlen, cs', e'', fz', k1', k2', k3', k4'⟩ := (hB.heap p hp).cells ⟨cs, e', fz, k1⟩
        rw [k1] at k1'
        cases k1'
        have fm := fn.take hmr
        have hnl : (news.take (m * sz)).length = m * sz := by rw [fm.size, List.length_take, Nat.min_eq_left hmr]
        obtain ⟨o1, f1, g1⟩ := flat_of_cells (c := c) (sz := sz) (rows := blk.rows.take off) p.1 p.2 (fun j row hr => by rw [List.getElem?_take] at hr; split at hr; rw [← hbs]; exact hBlen _ row hr; cases hr) (fun j row k u hr hu => by
          rw [List.getElem?_take] at hr
          split at hr
          · obtain ⟨v, v1, v2, v3⟩ := k3' _ row k u hr hu
            exact ⟨v, by rw [cell_of k1, ← v1, ← hbs], v2, v3⟩
          · cases hr)
        obtain ⟨o2, f2, g2⟩ := flat_of_cells (c := c) (sz := sz) (rows := blk.rows.drop (off + m)) p.1 (p.2 + (off + m) * sz) (fun j row hr => by rw [List.getElem?_drop] at hr; rw [← hbs]; exact hBlen _ row hr) (fun j row k u hr hu => by
          rw [List.getElem?_drop] at hr
          obtain ⟨v, v1, v2, v3⟩ := k3' _ row k u hr hu
          refine ⟨v, ?_, v2, v3⟩
          rw [cell_of k1, ← v1, ← hbs]
          congr 1
          simp only [Nat.add_mul]
          omega)
        have l1 : (blk.rows.take off).length = off := by rw [List.length_take]; omega
        have l2 : (blk.rows.drop (off + m)).length = blk.rows.length - (off + m) := List.length_drop
        have s1 := f1.size
        have s2 := f2.size
        rw [l1] at s1
        rw [l2] at s2
        have hmul : off * sz + m * sz = (off + m) * sz := (Nat.add_mul _ _ _).symm
        have hall : blk.rows.length * sz = (off + m) * sz + (blk.rows.length - (off + m)) * sz := by rw [← Nat.add_mul]; congr 1; omega
        rw [hbs] at k2'
        have hfit : p.2 + off * sz + (news.take (m * sz)).length ≤ cs.size := by rw [hnl]; omega
        have hst := storeCells_run (P := P) p.1 (p.2 + off * sz) e' fz (news.take (m * sz)) 0 cs c.w k1 (by simpa using hfit) (k4' hown).get fm.one
        simp only [Nat.add_zero] at hst
        have hrun : (Builtin.copy_ #[t, tx] o.type #[.slice (some ⟨p.1, p.2 + off * blk.sz, none⟩) len cap, a.eval x]).run P c.w = .ok (.int .i64 m) (c.w.setRow p.1 (cs.toList.take (p.2 + off * sz) ++ news.take (m * sz) ++ cs.toList.drop (p.2 + off * sz + (news.take (m * sz)).length)).toArray) := by
          rw [hbs]
          simp [Builtin.copy_, run_underlying ht, sizeOf_run hed, hsz, hs.len, hmin, hfm, hst, goInt]
        obtain ⟨u1, u2⟩ := updBlk r.inv hb hown (c.w.setRow p.1 (cs.toList.take (p.2 + off * sz) ++ news.take (m * sz) ++ cs.toList.drop (p.2 + off * sz + (news.take (m * sz)).length)).toArray) p { blk with rows := blk.rows.take off ++ rows.take m ++ blk.rows.drop (off + m) } c.N
          rfl rfl rfl (by simp) (fun b hb' hne => setRow_other _ _ _ _ (hne p hp)) (fun q cs1 e1 fz1 hq hh => by
            rw [hp] at hq
            cases hq
            rw [k1] at hh
            cases hh
            exact ⟨_, _, setRow_heap _ _ _ _ _ _ k1, by rw [List.size_toArray, List.length_append, List.length_append, List.length_take, List.length_drop, Array.length_toList]; omega⟩) (.inl ⟨p, hp, rfl⟩) (Nat.le_refl _) hB.gen
          (fun _ => ⟨rfl, hp, rfl, by simp only [List.length_append, List.length_take, List.length_drop]; omega⟩)
          (fun j row hr => by rw [hbs]; exact ((f1.append fm).append f2).len j row hr)
          ⟨_, e', fz, setRow_heap _ _ _ _ _ _ k1, by
            have hcl' : cs.toList.length = cs.size := Array.length_toList
            have hrl : (blk.rows.take off ++ rows.take m ++ blk.rows.drop (off + m)).length = blk.rows.length := by simp only [List.length_append, List.length_take, List.length_drop]; omega
            simp only [hrl, hbs]
            rw [List.size_toArray, List.length_append, List.length_append, List.length_take, List.length_drop]
            omega, by
            simp only [hbs]
            refine ((f1.append fm).append f2).rowsIn (fun k v hk' => ?_)
            rw [arr_over_get _ _ _ _ hfit, hnl]
            rcases Nat.lt_or_ge k (o1 ++ news.take (m * sz)).length with h | h
            · rw [List.getElem?_append_left h] at hk'
              rcases Nat.lt_or_ge k o1.length with h' | h'
              · rw [List.getElem?_append_left h'] at hk'
                rw [if_neg (by omega)]
                have := g1 k v hk'
                rw [cell_of k1] at this
                exact this
              · rw [List.getElem?_append_right h'] at hk'
                have := (List.getElem?_eq_some_iff.1 hk').1
                rw [if_pos (by omega), ← hk']
                congr 1
                omega
            · rw [List.getElem?_append_right h] at hk'
              rw [List.length_append] at h hk'
              rw [if_neg (by omega)]
              have := g2 _ v hk'
              rw [cell_of k1] at this
              rw [← this]
              congr 1
              omega, (k4' hown).to (by rw [List.size_toArray, List.length_append, List.length_append, List.length_take, List.length_drop, Array.length_toList]; omega)⟩
        refine ⟨_, _, _, copy_exec ho (by rw [hav]; exact hrun), hK, u1, u2, .v _⟩
      · have hm0 : m = 0 := by omega
        subst hm0
        have hrows : blk.rows.take off ++ rows.take 0 ++ blk.rows.drop (off + 0) = blk.rows := by simp
        have hrun : (Builtin.copy_ #[t, tx] o.type #[.slice base len cap, a.eval x]).run P c.w = .ok (.int .i64 (0 : Nat)) c.w := by
          have hf0 : (Builtin.firstCells sz 0 (a.eval x)).run P c.w = .ok #[] c.w := by simpa using hfm
          cases base with
          | none => simp [Builtin.copy_, run_underlying ht, sizeOf_run hed, hsz, hs.len, hmin, hf0, goInt]
          | some ad => simp [Builtin.copy_, run_underlying ht, sizeOf_run hed, hsz, hs.len, hmin, hf0, goInt, storeCells]
        refine ⟨_, c, _, copy_exec ho (by rw [hav]; exact hrun), ?_, r.inv, .refl c, .v _⟩
        rw [hrows] at hK
        have : c.S.set τ { blk with rows := blk.rows } = c.S := by
          apply List.ext_getElem?
          intro i
          rw [List.getElem?_set]
          split
          · rename_i h; subst h
            split
            · rw [hb]
            · rename_i h; exact absurd (List.getElem?_eq_some_iff.1 hb).1 h
          · rfl
        rw [this] at hK
        exact hK
end Go.Proofs.YtenoecffjfcifaaDoor.Pv

-- Thirty-first text: copy, and calls that know of some blocks alone, in a region.
namespace Go.Proofs.YtenoecffjfcifaaDoor.Pv
set_option linter.all false
open Go.RowKit
set_option linter.unusedVariables false
theorem gcall_drop {P : Program} {f : FuncId} {asv : List PV} {S : List Blk} {R : PV → List Blk → Prop} (h : GCall P f asv S fun x S' => ∃ k, R x (S'.take k)) : GCall P f asv S R := by
  intro c vals hi hs hl hv
  refine (h c vals hi hs hl hv).mono ?_
  rintro e w' ⟨v, x, c', rfl, rfl, ⟨k, hR⟩, hi', hst, hr⟩
  obtain ⟨h1, h2⟩ := dropBlk hi' k
  exact ⟨v, x, { c' with S := c'.S.take k }, rfl, rfl, hR, h1, hst.trans h2, hr.step h2⟩
theorem ren_ints (f : Nat → Nat) (k : IntKind) (l : List Int) : (ints k l).map (renL f) = ints k l := by
  unfold ints
  rw [List.map_map]
  apply List.map_congr_left
  intro x _
  rfl
theorem srcRows_sub {S : List Blk} {kk : IntKind} {l : List Int} {τ g gg off len : Nat} {o : Bool} (hb : S[τ]? = some ⟨gg, o, 1, ints kk l⟩) (hg : gg = g) : srcRows S 1 (.vw τ g off len) = some (ints kk ((l.drop off).take len)) := by
  subst hg
  simp [srcRows, hb, ints_drop, ints_take]
section
variable {P : Program} {ops : List Oper} {Q : PS → Prop} {rest : List Oper} {n : Nat} {tm : List (Nat × PV)} {S S' : List Blk} {d : Tmp} {ty : TypeId} {pos : String} {af : Array Edge} {t tx e : TypeId} {x s : Operand}
theorem ps_fcall {f : FuncId} [hf : FnOk P f] {args : Array Operand} {ats : Array TypeId} {as0 : List PV} {S0 : List Blk} {R : PV → List Blk → Prop} (e : List Nat) (h : GCall P f as0 S0 R)
    (k : ∀ x S', R x S' → ∀ x1 S1, ren (sg e S.length) x = x1 → putB e (S'.map (renB (sg e S.length))) S = S1 → Pops P ops Q rest ⟨n, (d, x1) :: tm, S1⟩)
    (hR : ∀ x S', R x S' → S0.length ≤ S'.length)
    (ha : args.toList.map (PS.get ⟨n, tm, S⟩) = renL (sg e S.length) as0 := by rfl)
    (hS : (e.map fun a => S[a]?) = S0.map fun b => some (renB (sg e S.length) b) := by first | rfl | (simp only [List.map_cons, List.map_nil, renB, ren_ints]; rfl))
    (hn : e.Nodup := by decide) (hb : ∀ a ∈ e, a < S.length := by first | decide | (simp only [List.length_cons, List.length_nil]; decide)) :
    Pops P ops Q (⟨some d, .call ⟨.value (.func f), args, ats⟩, ty, pos, af, none⟩ :: rest) ⟨n, tm, S⟩ := by
  have hl : e.length = S0.length := by simpa using congrArg List.length hS
  have hS' : ∀ (i a : Nat), e[i]? = some a → S[a]? = (S0[i]?).map (renB (sg e S.length)) := by
    intro i a hi
    have := congrArg (fun l => l[i]?) hS
    simp only [List.getElem?_map, hi, Option.map_some] at this
    cases h0 : S0[i]? with
    | none => rw [h0] at this; cases this
    | some b => rw [h0] at this; simpa using this
  have hfr := gcall_frame h e hn hl hb hS' hR
  refine ps_gcall hfr ?_ ha
  rintro x S' ⟨x0, S0', h1, rfl, rfl⟩
  exact k x0 S0' h1 _ _ rfl rfl
theorem ps_fcall_g {f : FuncId} [hf : FnOk P f] {args : Array Operand} {ats : Array TypeId} {as0 : List PV} {S0 : List Blk} {R : PV → List Blk → Prop} {j : Nat} {w : Bool} (e : List Nat) (h : GCall P f as0 S0 R)
    (k : ∀ x S', R x S' → ∀ x1 S1, ren (sg e S.length) x = x1 → putB e (S'.map (renB (sg e S.length))) S = S1 → Pops P ops Q rest ⟨n, (d, x1) :: tm, S1⟩)
    (hR : ∀ x S', R x S' → S0.length ≤ S'.length) (hgd : guardPV ops ⟨n, tm, S⟩ j w = some w := by ((conv => lhs; whnf) <;> fail "no"))
    (ha : args.toList.map (PS.get ⟨n, tm, S⟩) = renL (sg e S.length) as0 := by rfl)
    (hS : (e.map fun a => S[a]?) = S0.map fun b => some (renB (sg e S.length) b) := by first | rfl | (simp only [List.map_cons, List.map_nil, renB, ren_ints]; rfl))
    (hn : e.Nodup := by decide) (hb : ∀ a ∈ e, a < S.length := by first | decide | (simp only [List.length_cons, List.length_nil]; decide)) :
    Pops P ops Q (⟨some d, .call ⟨.value (.func f), args, ats⟩, ty, pos, af, some (j, w)⟩ :: rest) ⟨n, tm, S⟩ := by
  have hl : e.length = S0.length := by simpa using congrArg List.length hS
  have hS' : ∀ (i a : Nat), e[i]? = some a → S[a]? = (S0[i]?).map (renB (sg e S.length)) := by
    intro i a hi
    have := congrArg (fun l => l[i]?) hS
    simp only [List.getElem?_map, hi, Option.map_some] at this
    cases h0 : S0[i]? with
    | none => rw [h0] at this; cases this
    | some b => rw [h0] at this; simpa using this
  have hfr := gcall_frame h e hn hl hb hS' hR
  obtain ⟨fn, h1, h2, h3⟩ := hf.h
  refine ps_guard rfl hgd (pop_call rfl rfl rfl h1 h2 h3 (R := fun x' Sb' => ∃ x S', R x S' ∧ x' = ren (sg e S.length) x ∧ Sb' = putB e (S'.map (renB (sg e S.length))) S) ?_ ?_)
  · simp only [List.nil_append, List.append_nil, ha]
    exact hfr
  · rintro x S' ⟨x0, S0', g1, rfl, rfl⟩
    exact k x0 S0' g1 _ _ rfl rfl
theorem ps_copy {rows : List (List PV)} {τ g off len m sz : Nat} {blk : Blk} {de : TypeDesc} [ht : Und P t (.slice e)] [hd : Und P e de] [hc : Cel P e sz] (k : Pops P ops Q rest ⟨n, (d, .v (.int .i64 m)) :: tm, S'⟩)
    (hs : PS.get ⟨n, tm, S⟩ s = .vw τ g off len := by ((conv => lhs; whnf) <;> fail "no")) (hsrc : srcRows S sz (PS.get ⟨n, tm, S⟩ x) = some rows) (hb : S[τ]? = some blk := by first | ((conv => lhs; whnf) <;> fail "no") | exact rfl | assumption) (hg : blk.gen = g := by rfl) (how : blk.own = true := by rfl) (hbs : blk.sz = sz := by rfl)
    (hk : srcKind P tx (PS.get ⟨n, tm, S⟩ x) = true := by rfl) (hm : min rows.length len = m) (hS : S.set τ { blk with rows := blk.rows.take off ++ rows.take m ++ blk.rows.drop (off + m) } = S') :
    Pops P ops Q (⟨some d, .call ⟨.builtin .copy, #[s, x], #[t, tx]⟩, ty, pos, af, none⟩ :: rest) ⟨n, tm, S⟩ :=
  pops_one rfl (pop_copy rfl ht.h (by simp [known, hd.h]) hc.h hk hsrc hs hb hg how hbs hm (by rw [hS]; exact k))
theorem copy_nil {o : Oper} {σ : PS} {K : PV → List Blk → Prop} {rows : List (List PV)} {sz : Nat} (ho : o.op = .call { callee := .builtin .copy, args := #[s, x], argTypes := #[t, tx] })
    (ht : P.underlying t = some (.slice e)) (hke : known P e = true) (hsz : P.cellsOf e = sz) (hk : srcKind P tx (σ.get x) = true) (hsrc : srcRows σ.S sz (σ.get x) = some rows)
    (hd : σ.get s = .v (.slice none 0 0)) (hK : K (.v (.int .i64 (0 : Nat))) σ.S) : PopSem P σ o K :=
  pop_of_run fun c a r => by
    obtain ⟨ed, hed⟩ := Option.isSome_iff_exists.1 hke
    rw [← r.S] at hsrc hK
    obtain ⟨news, fn, hs, hfc⟩ := src_rel r.inv hsrc hk (r.get x)
    have hds := r.get s
    rw [hd] at hds
    have hf0 : (Builtin.firstCells sz 0 (a.eval x)).run P c.w = .ok #[] c.w := by simpa using hfc 0 (Nat.zero_le _)
    generalize hav : a.eval s = vs at hds
    cases hds
    have hmin : rows.length.min 0 = 0 := by simp [Nat.min_def]
    have hrun : (Builtin.copy_ #[t, tx] o.type #[.slice none 0 0, a.eval x]).run P c.w = .ok (.int .i64 (0 : Nat)) c.w := by
      simp [Builtin.copy_, run_underlying ht, sizeOf_run hed, hsz, hs.len, hmin, hf0, goInt]
    exact ⟨_, c, _, copy_exec ho (by rw [hav]; exact hrun), hK, r.inv, .refl c, .v _⟩
theorem ps_copy_nil {rows : List (List PV)} {sz : Nat} {de : TypeDesc} [ht : Und P t (.slice e)] [hd : Und P e de] [hc : Cel P e sz] (k : Pops P ops Q rest ⟨n, (d, .v (.int .i64 (0 : Nat))) :: tm, S⟩)
    (hsrc : srcRows S sz (PS.get ⟨n, tm, S⟩ x) = some rows) (hs : PS.get ⟨n, tm, S⟩ s = .v (.slice none 0 0) := by ((conv => lhs; whnf) <;> fail "no"))
    (hk : srcKind P tx (PS.get ⟨n, tm, S⟩ x) = true := by rfl) :
    Pops P ops Q (⟨some d, .call ⟨.builtin .copy, #[s, x], #[t, tx]⟩, ty, pos, af, none⟩ :: rest) ⟨n, tm, S⟩ :=
  pops_one rfl (copy_nil rfl ht.h (by simp [known, hd.h]) hc.h hk hsrc hs k)
end
end Go.Proofs.YtenoecffjfcifaaDoor.Pv

