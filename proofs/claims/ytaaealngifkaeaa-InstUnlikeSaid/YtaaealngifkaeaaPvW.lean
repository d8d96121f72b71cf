-- Twenty-second text: a walk through code, piece by piece, with what comes behind in a list.
import Derived.Test.YtaaealngifkaeaaPvV
namespace Go.Proofs.Ytaaealngifkaeaa.Pv
set_option linter.all false
open Go.RowKit
set_option linter.unusedVariables false
/-- Pieces of code, one behind the other. -/
def Tk (P : Program) : List Code → PS → (Exit → PS → Prop) → Prop
  | [], σ, Q => Q .normal σ
  | c :: l, σ, Q => Tr P c σ (behind (fun σ' => Tk P l σ' Q) Q)
theorem behind_mono {K K' : PS → Prop} {Q : Exit → PS → Prop} (h : ∀ σ, K σ → K' σ) {e : Exit} {σ : PS} (k : behind K Q e σ) : behind K' Q e σ := by
  cases e with
  | normal => exact h σ k
  | exit id => exact k
  | goto l => exact k
  | ret => exact k
  | panic ch => exact k
  | outgrown => exact k
theorem behind_same {Q : Exit → PS → Prop} {e : Exit} {σ : PS} (k : behind (Q .normal) Q e σ) : Q e σ := by
  cases e <;> exact k
theorem tk_start {P : Program} {c : Code} {σ : PS} {Q : Exit → PS → Prop} (h : Tk P [c] σ Q) : Tr P c σ Q := h.mono fun e σ' k => behind_same k
theorem kn {P : Program} {σ : PS} {Q : Exit → PS → Prop} (h : Q .normal σ) : Tk P [] σ Q := h
theorem ka {P : Program} {a b : Code} {l : List Code} {σ : PS} {Q : Exit → PS → Prop} (h : Tk P (a :: b :: l) σ Q) : Tk P (.seq a b :: l) σ Q := by
  refine tr_seq fun K hK => Tr.mono h ?_
  intro e σ' k
  cases e with
  | normal => exact hK σ' k
  | exit id => exact k
  | goto l => exact k
  | ret => exact k
  | panic ch => exact k
  | outgrown => exact k
theorem kr {P : Program} {id : Nat} {ops : Array Oper} {l : List Code} {σ : PS} {Q : Exit → PS → Prop} (σ' : PS) (n' : Nat) (k : Pops P ops.toList (fun σ' => Tk P l σ' Q) (lastN ops.toList n') σ') (hd : ops.toList.all (fun o => dstOk σ.n o && gOk ops.toList o) = true := by kernel_rfl)
    (he : EvR P (prs ops.toList ops.toList) σ σ' n' := by repeat (first | (refine is_c ?_; first | (refine is_u ?_; first | (refine is_mv ?_; refine es_mv ?_) | (refine is_as ?_; refine es_as ?_) | (refine is_bin ?_; first | (refine is_b_lss ?_; first | refine es_lt_t ?_ | refine es_lt_f ?_ | refine es_lt ?_) | (refine is_b_leq ?_; first | refine es_le_t ?_ | refine es_le_f ?_ | refine es_le ?_) | (refine is_b_gtr ?_; first | refine es_gt_t ?_ | refine es_gt_f ?_ | refine es_gt ?_) | (refine is_b_geq ?_; first | refine es_ge_t ?_ | refine es_ge_f ?_ | refine es_ge ?_) | (refine is_b_eql ?_; first | refine es_eq_t ?_ | refine es_eq_f ?_ | refine es_eq ?_ | refine es_seq_t ?_ | refine es_seq_f ?_ | refine es_seq ?_ | refine es_aeq_t ?_ | refine es_aeq ?_ | refine es_beq ?_ | refine es_eqn_ro ?_ | refine es_eqn_nil ?_) | (refine is_b_neq ?_; first | refine es_ne_t ?_ | refine es_ne_f ?_ | refine es_ne ?_ | refine es_sne_t ?_ | refine es_sne_f ?_ | refine es_sne ?_ | refine es_ane_f ?_ | refine es_ane ?_ | refine es_bne ?_ | refine es_nen_ro ?_ | refine es_nen_nil ?_) | (refine is_b_add ?_; first | refine es_add ?_ | refine es_sadd ?_) | (refine is_b_sub ?_; refine es_sub ?_) | (refine is_b_mul ?_; refine es_mul ?_) | (refine is_b_quo ?_; refine es_quo ?_) | (refine is_b_rem ?_; refine es_rem ?_) | (refine is_b_and ?_; refine es_and ?_) | (refine is_b_or ?_; refine es_or ?_) | (refine is_b_xor ?_; refine es_xor ?_) | (refine is_b_andNot ?_; refine es_andn ?_) | (refine is_b_shl ?_; refine es_shl ?_) | (refine is_b_shr ?_; refine es_shr ?_)) | (refine is_ld ?_; first | refine es_ld_rp ?_ | refine es_lda_rp ?_ | refine es_ld_ptr ?_ | refine es_lda_ptr ?_) | (refine is_ixa ?_; first | refine es_ix_ro ?_ | refine es_ix_vw ?_ | refine es_ix_arr ?_) | (refine is_ix ?_; first | refine es_six ?_ | refine es_aix ?_) | (refine is_fa ?_; first | refine es_fa_ptr ?_ | refine es_fa_rp ?_) | (refine is_ext ?_; refine es_ext ?_) | (refine is_pick ?_; first | refine es_pick_t ?_ | refine es_pick_f ?_ | refine es_pick ?_) | (refine is_call ?_; first | refine es_slen ?_ | refine es_len_ro ?_ | refine es_len_vw ?_ | refine es_len_nil ?_ | refine es_len_str ?_ | refine es_min ?_ | refine es_max ?_) | (refine is_conv ?_; refine es_conv ?_) | (refine is_un ?_; first | refine es_not_t ?_ | refine es_not_f ?_ | refine es_not ?_ | refine es_neg ?_) | (refine is_fv ?_; first | refine es_fv ?_ | refine es_fva ?_) | (refine is_nil ?_; first | refine es_nil_ptr ?_ | refine es_nil_fn ?_) | (refine is_bld ?_; refine es_bld ?_) | (refine is_mf ?_; refine es_mf ?_) | (refine is_sl ?_; first | refine es_sl_h ?_ | refine es_sl_l ?_ | refine es_sl_b ?_ | refine es_ssl_h ?_ | refine es_ssl_l ?_ | refine es_ssl_b ?_)) | (refine es_guard ?_; first | (refine is_mv ?_; refine es_mv ?_) | (refine is_as ?_; refine es_as ?_) | (refine is_bin ?_; first | (refine is_b_lss ?_; first | refine es_lt_t ?_ | refine es_lt_f ?_ | refine es_lt ?_) | (refine is_b_leq ?_; first | refine es_le_t ?_ | refine es_le_f ?_ | refine es_le ?_) | (refine is_b_gtr ?_; first | refine es_gt_t ?_ | refine es_gt_f ?_ | refine es_gt ?_) | (refine is_b_geq ?_; first | refine es_ge_t ?_ | refine es_ge_f ?_ | refine es_ge ?_) | (refine is_b_eql ?_; first | refine es_eq_t ?_ | refine es_eq_f ?_ | refine es_eq ?_ | refine es_seq_t ?_ | refine es_seq_f ?_ | refine es_seq ?_ | refine es_aeq_t ?_ | refine es_aeq ?_ | refine es_beq ?_ | refine es_eqn_ro ?_ | refine es_eqn_nil ?_) | (refine is_b_neq ?_; first | refine es_ne_t ?_ | refine es_ne_f ?_ | refine es_ne ?_ | refine es_sne_t ?_ | refine es_sne_f ?_ | refine es_sne ?_ | refine es_ane_f ?_ | refine es_ane ?_ | refine es_bne ?_ | refine es_nen_ro ?_ | refine es_nen_nil ?_) | (refine is_b_add ?_; first | refine es_add ?_ | refine es_sadd ?_) | (refine is_b_sub ?_; refine es_sub ?_) | (refine is_b_mul ?_; refine es_mul ?_) | (refine is_b_quo ?_; refine es_quo ?_) | (refine is_b_rem ?_; refine es_rem ?_) | (refine is_b_and ?_; refine es_and ?_) | (refine is_b_or ?_; refine es_or ?_) | (refine is_b_xor ?_; refine es_xor ?_) | (refine is_b_andNot ?_; refine es_andn ?_) | (refine is_b_shl ?_; refine es_shl ?_) | (refine is_b_shr ?_; refine es_shr ?_)) | (refine is_ld ?_; first | refine es_ld_rp ?_ | refine es_lda_rp ?_ | refine es_ld_ptr ?_ | refine es_lda_ptr ?_) | (refine is_ixa ?_; first | refine es_ix_ro ?_ | refine es_ix_vw ?_ | refine es_ix_arr ?_) | (refine is_ix ?_; first | refine es_six ?_ | refine es_aix ?_) | (refine is_fa ?_; first | refine es_fa_ptr ?_ | refine es_fa_rp ?_) | (refine is_ext ?_; refine es_ext ?_) | (refine is_pick ?_; first | refine es_pick_t ?_ | refine es_pick_f ?_ | refine es_pick ?_) | (refine is_call ?_; first | refine es_slen ?_ | refine es_len_ro ?_ | refine es_len_vw ?_ | refine es_len_nil ?_ | refine es_len_str ?_ | refine es_min ?_ | refine es_max ?_) | (refine is_conv ?_; refine es_conv ?_) | (refine is_un ?_; first | refine es_not_t ?_ | refine es_not_f ?_ | refine es_not ?_ | refine es_neg ?_) | (refine is_fv ?_; first | refine es_fv ?_ | refine es_fva ?_) | (refine is_nil ?_; first | refine es_nil_ptr ?_ | refine es_nil_fn ?_) | (refine is_bld ?_; refine es_bld ?_) | (refine is_mf ?_; refine es_mf ?_) | (refine is_sl ?_; first | refine es_sl_h ?_ | refine es_sl_l ?_ | refine es_sl_b ?_ | refine es_ssl_h ?_ | refine es_ssl_l ?_ | refine es_ssl_b ?_)) | refine es_skip ?_) | exact EvR.stop _ _)) : Tk P (.region id ops false :: l) σ Q := srl (Q := behind (fun σ' => Tk P l σ' Q) Q) σ' n' k hd he
theorem kd {P : Program} {id : Nat} {ops : Array Oper} {l : List Code} {σ : PS} {Q : Exit → PS → Prop} (σ' : PS) (n' : Nat) (k : PStL P ops.toList (fun σ' => Tk P l σ' Q) (lastN ops.toList n') σ') [hm : Mixed P] (hd : ops.toList.all (fun o => dstOk σ.n o && gOk ops.toList o) = true := by kernel_rfl) (hok : drawOk ops = true := by kernel_rfl)
    (he : EvR P (prs ops.toList ops.toList) σ σ' n' := by repeat (first | (refine is_c ?_; first | (refine is_u ?_; first | (refine is_mv ?_; refine es_mv ?_) | (refine is_as ?_; refine es_as ?_) | (refine is_bin ?_; first | (refine is_b_lss ?_; first | refine es_lt_t ?_ | refine es_lt_f ?_ | refine es_lt ?_) | (refine is_b_leq ?_; first | refine es_le_t ?_ | refine es_le_f ?_ | refine es_le ?_) | (refine is_b_gtr ?_; first | refine es_gt_t ?_ | refine es_gt_f ?_ | refine es_gt ?_) | (refine is_b_geq ?_; first | refine es_ge_t ?_ | refine es_ge_f ?_ | refine es_ge ?_) | (refine is_b_eql ?_; first | refine es_eq_t ?_ | refine es_eq_f ?_ | refine es_eq ?_ | refine es_seq_t ?_ | refine es_seq_f ?_ | refine es_seq ?_ | refine es_aeq_t ?_ | refine es_aeq ?_ | refine es_beq ?_ | refine es_eqn_ro ?_ | refine es_eqn_nil ?_) | (refine is_b_neq ?_; first | refine es_ne_t ?_ | refine es_ne_f ?_ | refine es_ne ?_ | refine es_sne_t ?_ | refine es_sne_f ?_ | refine es_sne ?_ | refine es_ane_f ?_ | refine es_ane ?_ | refine es_bne ?_ | refine es_nen_ro ?_ | refine es_nen_nil ?_) | (refine is_b_add ?_; first | refine es_add ?_ | refine es_sadd ?_) | (refine is_b_sub ?_; refine es_sub ?_) | (refine is_b_mul ?_; refine es_mul ?_) | (refine is_b_quo ?_; refine es_quo ?_) | (refine is_b_rem ?_; refine es_rem ?_) | (refine is_b_and ?_; refine es_and ?_) | (refine is_b_or ?_; refine es_or ?_) | (refine is_b_xor ?_; refine es_xor ?_) | (refine is_b_andNot ?_; refine es_andn ?_) | (refine is_b_shl ?_; refine es_shl ?_) | (refine is_b_shr ?_; refine es_shr ?_)) | (refine is_ld ?_; first | refine es_ld_rp ?_ | refine es_lda_rp ?_ | refine es_ld_ptr ?_ | refine es_lda_ptr ?_) | (refine is_ixa ?_; first | refine es_ix_ro ?_ | refine es_ix_vw ?_ | refine es_ix_arr ?_) | (refine is_ix ?_; first | refine es_six ?_ | refine es_aix ?_) | (refine is_fa ?_; first | refine es_fa_ptr ?_ | refine es_fa_rp ?_) | (refine is_ext ?_; refine es_ext ?_) | (refine is_pick ?_; first | refine es_pick_t ?_ | refine es_pick_f ?_ | refine es_pick ?_) | (refine is_call ?_; first | refine es_slen ?_ | refine es_len_ro ?_ | refine es_len_vw ?_ | refine es_len_nil ?_ | refine es_len_str ?_ | refine es_min ?_ | refine es_max ?_) | (refine is_conv ?_; refine es_conv ?_) | (refine is_un ?_; first | refine es_not_t ?_ | refine es_not_f ?_ | refine es_not ?_ | refine es_neg ?_) | (refine is_fv ?_; first | refine es_fv ?_ | refine es_fva ?_) | (refine is_nil ?_; first | refine es_nil_ptr ?_ | refine es_nil_fn ?_) | (refine is_bld ?_; refine es_bld ?_) | (refine is_mf ?_; refine es_mf ?_) | (refine is_sl ?_; first | refine es_sl_h ?_ | refine es_sl_l ?_ | refine es_sl_b ?_ | refine es_ssl_h ?_ | refine es_ssl_l ?_ | refine es_ssl_b ?_)) | (refine es_guard ?_; first | (refine is_mv ?_; refine es_mv ?_) | (refine is_as ?_; refine es_as ?_) | (refine is_bin ?_; first | (refine is_b_lss ?_; first | refine es_lt_t ?_ | refine es_lt_f ?_ | refine es_lt ?_) | (refine is_b_leq ?_; first | refine es_le_t ?_ | refine es_le_f ?_ | refine es_le ?_) | (refine is_b_gtr ?_; first | refine es_gt_t ?_ | refine es_gt_f ?_ | refine es_gt ?_) | (refine is_b_geq ?_; first | refine es_ge_t ?_ | refine es_ge_f ?_ | refine es_ge ?_) | (refine is_b_eql ?_; first | refine es_eq_t ?_ | refine es_eq_f ?_ | refine es_eq ?_ | refine es_seq_t ?_ | refine es_seq_f ?_ | refine es_seq ?_ | refine es_aeq_t ?_ | refine es_aeq ?_ | refine es_beq ?_ | refine es_eqn_ro ?_ | refine es_eqn_nil ?_) | (refine is_b_neq ?_; first | refine es_ne_t ?_ | refine es_ne_f ?_ | refine es_ne ?_ | refine es_sne_t ?_ | refine es_sne_f ?_ | refine es_sne ?_ | refine es_ane_f ?_ | refine es_ane ?_ | refine es_bne ?_ | refine es_nen_ro ?_ | refine es_nen_nil ?_) | (refine is_b_add ?_; first | refine es_add ?_ | refine es_sadd ?_) | (refine is_b_sub ?_; refine es_sub ?_) | (refine is_b_mul ?_; refine es_mul ?_) | (refine is_b_quo ?_; refine es_quo ?_) | (refine is_b_rem ?_; refine es_rem ?_) | (refine is_b_and ?_; refine es_and ?_) | (refine is_b_or ?_; refine es_or ?_) | (refine is_b_xor ?_; refine es_xor ?_) | (refine is_b_andNot ?_; refine es_andn ?_) | (refine is_b_shl ?_; refine es_shl ?_) | (refine is_b_shr ?_; refine es_shr ?_)) | (refine is_ld ?_; first | refine es_ld_rp ?_ | refine es_lda_rp ?_ | refine es_ld_ptr ?_ | refine es_lda_ptr ?_) | (refine is_ixa ?_; first | refine es_ix_ro ?_ | refine es_ix_vw ?_ | refine es_ix_arr ?_) | (refine is_ix ?_; first | refine es_six ?_ | refine es_aix ?_) | (refine is_fa ?_; first | refine es_fa_ptr ?_ | refine es_fa_rp ?_) | (refine is_ext ?_; refine es_ext ?_) | (refine is_pick ?_; first | refine es_pick_t ?_ | refine es_pick_f ?_ | refine es_pick ?_) | (refine is_call ?_; first | refine es_slen ?_ | refine es_len_ro ?_ | refine es_len_vw ?_ | refine es_len_nil ?_ | refine es_len_str ?_ | refine es_min ?_ | refine es_max ?_) | (refine is_conv ?_; refine es_conv ?_) | (refine is_un ?_; first | refine es_not_t ?_ | refine es_not_f ?_ | refine es_not ?_ | refine es_neg ?_) | (refine is_fv ?_; first | refine es_fv ?_ | refine es_fva ?_) | (refine is_nil ?_; first | refine es_nil_ptr ?_ | refine es_nil_fn ?_) | (refine is_bld ?_; refine es_bld ?_) | (refine is_mf ?_; refine es_mf ?_) | (refine is_sl ?_; first | refine es_sl_h ?_ | refine es_sl_l ?_ | refine es_sl_b ?_ | refine es_ssl_h ?_ | refine es_ssl_l ?_ | refine es_ssl_b ?_)) | refine es_skip ?_) | exact EvR.stop _ _)) : Tk P (.region id ops true :: l) σ Q := sdl (Q := behind (fun σ' => Tk P l σ' Q) Q) σ' n' k hd hok he
theorem bool_t {p : Prop} [Decidable p] (h : p) : PV.v (.bool (decide p)) = PV.v (.bool true) := by rw [decide_eq_true h]
theorem bool_f {p : Prop} [Decidable p] (h : ¬ p) : PV.v (.bool (decide p)) = PV.v (.bool false) := by rw [decide_eq_false h]
theorem kct {P : Program} {cnd : Operand} {x y : Code} {l : List Code} {n : Nat} {tm : List (Nat × PV)} {S : List Blk} {Q : Exit → PS → Prop} (h : Tk P (x :: l) ⟨n, tm, S⟩ Q) (hb : PS.get ⟨n, tm, S⟩ cnd = .v (.bool true) := by first | ((conv => lhs; whnf) <;> fail "no") | ((conv => lhs; whnf); exact bool_t (by first | omega | assumption))) : Tk P (.cond cnd x y :: l) ⟨n, tm, S⟩ Q := tr_cond hb (fun _ => h) (fun h => by cases h)
theorem kcf {P : Program} {cnd : Operand} {x y : Code} {l : List Code} {n : Nat} {tm : List (Nat × PV)} {S : List Blk} {Q : Exit → PS → Prop} (h : Tk P (y :: l) ⟨n, tm, S⟩ Q) (hb : PS.get ⟨n, tm, S⟩ cnd = .v (.bool false) := by first | ((conv => lhs; whnf) <;> fail "no") | ((conv => lhs; whnf); exact bool_f (by first | omega | assumption))) : Tk P (.cond cnd x y :: l) ⟨n, tm, S⟩ Q := tr_cond hb (fun h => by cases h) (fun _ => h)
theorem kcs {P : Program} {cnd : Operand} {x y : Code} {l : List Code} {n : Nat} {tm : List (Nat × PV)} {S : List Blk} {Q : Exit → PS → Prop} {b : Bool} (ht : b = true → Tk P (x :: l) ⟨n, tm, S⟩ Q) (hf : b = false → Tk P (y :: l) ⟨n, tm, S⟩ Q) (hb : PS.get ⟨n, tm, S⟩ cnd = .v (.bool b) := by ((conv => lhs; whnf) <;> fail "no")) : Tk P (.cond cnd x y :: l) ⟨n, tm, S⟩ Q := tr_cond hb ht hf
theorem ksk {P : Program} {l : List Code} {σ : PS} {Q : Exit → PS → Prop} (h : Tk P l σ Q) : Tk P (.skip :: l) σ Q := tr_skip h
theorem kx {P : Program} {id : Nat} {l : List Code} {σ : PS} {Q : Exit → PS → Prop} (h : Q (.exit id) σ) : Tk P (.exit id :: l) σ Q := tr_exit h
theorem kret {P : Program} {l : List Code} {σ : PS} {Q : Exit → PS → Prop} (h : Q .ret σ) : Tk P (.ret :: l) σ Q := tr_ret h
theorem klab {P : Program} {id : Nat} {l : List Code} {σ : PS} {Q : Exit → PS → Prop} (h : Tk P l σ Q) : Tk P (.label id :: l) σ Q := tr_label h
theorem kb {P : Program} {id : Nat} {body : Code} {l : List Code} {σ : PS} {Q : Exit → PS → Prop} (h : Tk P [body] σ (inBlk id (behind (fun σ' => Tk P l σ' Q) Q))) : Tk P (.block id body :: l) σ Q := tr_block (tk_start h)
theorem beh_n {K : PS → Prop} {Q : Exit → PS → Prop} {σ : PS} (h : K σ) : behind K Q .normal σ := h
theorem beh_x {K : PS → Prop} {Q : Exit → PS → Prop} {σ : PS} {id : Nat} (h : Q (.exit id) σ) : behind K Q (.exit id) σ := h
theorem beh_r {K : PS → Prop} {Q : Exit → PS → Prop} {σ : PS} (h : Q .ret σ) : behind K Q .ret σ := h
theorem blk_n {id : Nat} {Q : Exit → PS → Prop} {σ : PS} (h : Q .normal σ) : inBlk id Q .normal σ := h
theorem blk_r {id : Nat} {Q : Exit → PS → Prop} {σ : PS} (h : Q .ret σ) : inBlk id Q .ret σ := h
theorem blk_here {id : Nat} {Q : Exit → PS → Prop} {σ : PS} (h : Q .normal σ) : inBlk id Q (.exit id) σ := by simp only [inBlk, if_true]; exact h
theorem blk_up {id id' : Nat} {Q : Exit → PS → Prop} {σ : PS} (hne : (id == id') = false) (h : Q (.exit id) σ) : inBlk id' Q (.exit id) σ := by
  have : id ≠ id' := by simpa using hne
  simp only [inBlk, if_neg this]; exact h
theorem tk_mono {P : Program} {l : List Code} {σ : PS} {Q Q' : Exit → PS → Prop} (h : Tk P l σ Q) (hq : ∀ e σ, Q e σ → Q' e σ) : Tk P l σ Q' := by
  induction l generalizing σ with
  | nil => exact hq _ _ h
  | cons c l ih =>
    refine Tr.mono h ?_
    intro e σ' k
    cases e with
    | normal => exact ih k
    | exit id => exact hq _ _ k
    | goto l => exact hq _ _ k
    | ret => exact hq _ _ k
    | panic ch => exact hq _ _ k
    | outgrown => exact hq _ _ k
/-- Only so much is known from here on. -/
theorem kfor {P : Program} {l : List Code} {n : Nat} {tm : List (Nat × PV)} {S S' : List Blk} {Q : Exit → PS → Prop} (tm' : List (Nat × PV)) (k : Nat) (c : Code) (h : Has tm tm') (hc : Tk P (c :: l) ⟨n, tm', S'⟩ Q) (hS : S.take k = S' := by rfl) : Tk P (c :: l) ⟨n, tm, S⟩ Q :=
  forget tm' k h.all hS hc
/-- A loop: what it changes is told by a. -/
theorem kw {P : Program} {body : Code} {l : List Code} {n : Nat} {tm : List (Nat × PV)} {S0 : List Blk} {Q : Exit → PS → Prop} {α : Type} (T : α → List (Nat × PV)) (S : α → List Blk) (V : α → Prop) (μ : α → Nat) (a0 : α) (h0 : V a0) (hh : Holds ⟨n, tm, S0⟩ n (T a0) (S a0))
    (round : ∀ a, V a → Tk P [body] ⟨n, T a, S a⟩ (behind (fun σ' => ∃ a', V a' ∧ μ a' < μ a ∧ Holds σ' n (T a') (S a')) (behind (fun σ' => Tk P l σ' Q) Q))) : Tk P (.loop body :: l) ⟨n, tm, S0⟩ Q :=
  tr_while T S V μ a0 h0 hh fun a ha => tk_start (round a ha)
/-- Where ways meet again: what is known behind. -/
theorem kcut {P : Program} {c : Code} {l : List Code} {n : Nat} {tm : List (Nat × PV)} {S0 : List Blk} {Q : Exit → PS → Prop} {α : Type} (T : α → List (Nat × PV)) (S : α → List Blk) (V : α → Prop) (hx : Tk P [c] ⟨n, tm, S0⟩ (behind (fun σ' => ∃ a, V a ∧ Holds σ' n (T a) (S a)) Q)) (hy : ∀ a, V a → Tk P l ⟨n, T a, S a⟩ Q) (hl : l ≠ []) : Tk P (c :: l) ⟨n, tm, S0⟩ Q := by
  refine Tr.mono (tk_start hx) ?_
  intro e σ' h
  cases e with
  | normal =>
    obtain ⟨a, hv, h1, h2, k, h3⟩ := h
    obtain ⟨n', tm', S2⟩ := σ'
    simp only at h1 h2 h3
    subst h1
    cases l with
    | nil => exact absurd rfl hl
    | cons c' l => exact forget (T a) k h2.all h3 (hy a hv)
  | exit id => exact h
  | goto l => exact h
  | ret => exact h
  | panic ch => exact h
  | outgrown => exact h
end Go.Proofs.Ytaaealngifkaeaa.Pv
