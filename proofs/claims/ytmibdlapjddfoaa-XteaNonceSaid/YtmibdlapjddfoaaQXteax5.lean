-- Text written by a program of this session (wip/tools).
import Derived.Test.YtmibdlapjddfoaaQXteax0
import Derived.Test.YtmibdlapjddfoaaQXteax2
import Derived.Test.YtmibdlapjddfoaaQXteax3
namespace Go.Proofs.Ytmibdlapjddfoaa.QXtea
open Go.RowKit Go.Proofs.YtmibdlapjddfoaaW.PrintWords Go.Proofs.YtmibdlapjddfoaaW.PrintLast Go.Proofs.YtmibdlapjddfoaaW.PrintMore
attribute [local go_sem] max2_int min2_int max_two min_two max_three min_three max_four min_four   -- for this text's walks alone
set_option linter.unusedVariables false
set_option linter.unusedSimpArgs false

/-! ### carapaceref02_From: function 35 -/
theorem xtea_pick (r1 r2 : Int) (k : Nat) (h : k < [Value.int .u32 r1, Value.int .u32 r2].length) : [Value.int .u32 r1, Value.int .u32 r2][k] = .int .u32 (if k = 0 then r1 else r2) := by
  match k, h with
  | 0, _ => rfl
  | 1, _ => rfl
theorem xtea_blk_range (ks : List Int) (a b : Int) : (0 ≤ (xtea_blk ks a b).1 ∧ (xtea_blk ks a b).1 < 4294967296) ∧ (0 ≤ (xtea_blk ks a b).2 ∧ (xtea_blk ks a b).2 < 4294967296) := by
  obtain ⟨x, y, s, h⟩ : ∃ x y s, xtea_run ks a b 31 = (x, y, s) := ⟨_, _, _, rfl⟩
  have h2 := xtea_run_step h
  unfold xtea_blk
  rw [show (32 : Nat) = 31 + 1 from rfl, h2]
  exact ⟨⟨Int.emod_nonneg _ (by decide), Int.emod_lt_of_pos _ (by decide)⟩, ⟨Int.emod_nonneg _ (by decide), Int.emod_lt_of_pos _ (by decide)⟩⟩
theorem xtea_shift (r : Int) (h : 0 ≤ r ∧ r < 4294967296) (j : Nat) : (r / 2 ^ (8 * j)).tdiv 256 % 4294967296 = r / 2 ^ (8 * (j + 1)) := by
  have hp : (0 : Int) < 2 ^ (8 * j) := Int.pow_pos (by decide)
  have h0 : 0 ≤ r / 2 ^ (8 * j) := Int.ediv_nonneg h.1 (Int.le_of_lt hp)
  have h1 : r / 2 ^ (8 * j) ≤ r := Int.ediv_le_self _ h.1
  have e : r / 2 ^ (8 * j) / 256 = r / 2 ^ (8 * (j + 1)) := by
    rw [Int.ediv_ediv_of_nonneg (Int.le_of_lt hp), show 8 * (j + 1) = 8 * j + 8 by omega, Int.pow_add]
    rfl
  rw [Int.tdiv_eq_ediv_of_nonneg h0, ← e]
  omega
set_option maxHeartbeats 3200000 in
set_option maxRecDepth 100000 in
theorem carapaceref02_From.walk (k0 k1 k2 k3 k4 k5 k6 k7 k8 k9 k10 k11 k12 k13 k14 k15 n0 n1 bl : Int) (A3 : Option Addr) (c3 : Nat) (l3 : List Int) (w : World) (h0 : Aside0 (0 ≤ k0 ∧ k0 < 256)) (h1 : Aside0 (0 ≤ k1 ∧ k1 < 256)) (h2 : Aside0 (0 ≤ k2 ∧ k2 < 256)) (h3 : Aside0 (0 ≤ k3 ∧ k3 < 256)) (h4 : Aside0 (0 ≤ k4 ∧ k4 < 256)) (h5 : Aside0 (0 ≤ k5 ∧ k5 < 256)) (h6 : Aside0 (0 ≤ k6 ∧ k6 < 256)) (h7 : Aside0 (0 ≤ k7 ∧ k7 < 256)) (h8 : Aside0 (0 ≤ k8 ∧ k8 < 256)) (h9 : Aside0 (0 ≤ k9 ∧ k9 < 256)) (h10 : Aside0 (0 ≤ k10 ∧ k10 < 256)) (h11 : Aside0 (0 ≤ k11 ∧ k11 < 256)) (h12 : Aside0 (0 ≤ k12 ∧ k12 < 256)) (h13 : Aside0 (0 ≤ k13 ∧ k13 < 256)) (h14 : Aside0 (0 ≤ k14 ∧ k14 < 256)) (h15 : Aside0 (0 ≤ k15 ∧ k15 < 256)) (hn0 : Aside0 (0 ≤ n0 ∧ n0 < 4294967296)) (hn1 : Aside0 (0 ≤ n1 ∧ n1 < 4294967296)) (hbl : Aside0 (0 ≤ bl ∧ bl < 4294967296)) (hlen : l3.length < 140737488355328)
    (hr3 : Kd.C (Kd.int .u8) w A3 l3.length l3) (hc3 : l3.length ≤ c3) :
    Calls Try.prog 35 #[.agg #[.int .u8 k0, .int .u8 k1, .int .u8 k2, .int .u8 k3, .int .u8 k4, .int .u8 k5, .int .u8 k6, .int .u8 k7, .int .u8 k8, .int .u8 k9, .int .u8 k10, .int .u8 k11, .int .u8 k12, .int .u8 k13, .int .u8 k14, .int .u8 k15], .agg #[.int .u32 n0, .int .u32 n1], .int .u32 bl, .slice A3 l3.length c3] w fun e w' => ∃ v0_ : Value, e = .returned (v0_) ∧ Kd.R (Kd.int .u8) 5 w' w.heap.size (fun _ => True) v0_ (xtea_out (xtea_kb [xtea_wd k0 k1 k2 k3, xtea_wd k4 k5 k6 k7, xtea_wd k8 k9 k10 k11, xtea_wd k12 k13 k14 k15] n0 n1 bl) l3 l3.length) ∧ Below w.heap.size w w' := by
  have HR3 := Aside0.mk hr3
  have HLEN := Aside0.mk hlen
  clear hr3
  go_enter Try.func35, Try.ntmps35
  go_wp2_with (first
    | ((with_reducible refine gate_dst (N := 14) rfl ?_); refine Kd.R_lit (Kd.int .u8) _ 5 ?hg (N := 14) ?hd (xs := ([] : List Int)) (inner := []) (ok := fun _ => True) (okp := fun _ => True) ?hr ?hp (fun _ hk => hk) trivial (Below.refl _ _) (Nat.le_refl _) (by simp) ?_; (case hd => rfl); (case hg => rfl); (case hr => first | (go_simp; done) | (go_simp; rfl)); (case hp => exact (Reps.none _ _)); intro v1 w2 ho hb hg_ hnew_; have HO := Aside0.mk ho; have HB := Aside0.mk hb; clear ho hb hg_ hnew_))
  have HKEY := Aside0.mk (blk_alloc (blk_new w (.cells #[.int .u8 k0, .int .u8 k1, .int .u8 k2, .int .u8 k3, .int .u8 k4, .int .u8 k5, .int .u8 k6, .int .u8 k7, .int .u8 k8, .int .u8 k9, .int .u8 k10, .int .u8 k11, .int .u8 k12, .int .u8 k13, .int .u8 k14, .int .u8 k15] 44)) (.cells #[.int .u32 n0, .int .u32 n1] 47))
  have HNON := Aside0.mk (show ((w.alloc (.cells #[.int .u8 k0, .int .u8 k1, .int .u8 k2, .int .u8 k3, .int .u8 k4, .int .u8 k5, .int .u8 k6, .int .u8 k7, .int .u8 k8, .int .u8 k9, .int .u8 k10, .int .u8 k11, .int .u8 k12, .int .u8 k13, .int .u8 k14, .int .u8 k15] 44)).alloc (.cells #[.int .u32 n0, .int .u32 n1] 47)).heap[w.heap.size + 1]? = some (.cells #[.int .u32 n0, .int .u32 n1] 47) by have := blk_new (w.alloc (.cells #[.int .u8 k0, .int .u8 k1, .int .u8 k2, .int .u8 k3, .int .u8 k4, .int .u8 k5, .int .u8 k6, .int .u8 k7, .int .u8 k8, .int .u8 k9, .int .u8 k10, .int .u8 k11, .int .u8 k12, .int .u8 k13, .int .u8 k14, .int .u8 k15] 44)) (.cells #[.int .u32 n0, .int .u32 n1] 47); simpa using this)
  have HBW := Aside0.mk (below_alloc (below_alloc (Below.refl w.heap.size w) (.cells #[.int .u8 k0, .int .u8 k1, .int .u8 k2, .int .u8 k3, .int .u8 k4, .int .u8 k5, .int .u8 k6, .int .u8 k7, .int .u8 k8, .int .u8 k9, .int .u8 k10, .int .u8 k11, .int .u8 k12, .int .u8 k13, .int .u8 k14, .int .u8 k15] 44)) (.cells #[.int .u32 n0, .int .u32 n1] 47))
  have HSZ := Aside0.mk (show ((w.alloc (.cells #[.int .u8 k0, .int .u8 k1, .int .u8 k2, .int .u8 k3, .int .u8 k4, .int .u8 k5, .int .u8 k6, .int .u8 k7, .int .u8 k8, .int .u8 k9, .int .u8 k10, .int .u8 k11, .int .u8 k12, .int .u8 k13, .int .u8 k14, .int .u8 k15] 44)).alloc (.cells #[.int .u32 n0, .int .u32 n1] 47)).heap.size = w.heap.size + 2 by simp)
  generalize (w.alloc (.cells #[.int .u8 k0, .int .u8 k1, .int .u8 k2, .int .u8 k3, .int .u8 k4, .int .u8 k5, .int .u8 k6, .int .u8 k7, .int .u8 k8, .int .u8 k9, .int .u8 k10, .int .u8 k11, .int .u8 k12, .int .u8 k13, .int .u8 k14, .int .u8 k15] 44)).alloc (.cells #[.int .u32 n0, .int .u32 n1] 47) = W0 at *
  obtain ⟨G, hG⟩ : ∃ G, xtea_kb [xtea_wd k0 k1 k2 k3, xtea_wd k4 k5 k6 k7, xtea_wd k8 k9 k10 k11, xtea_wd k12 k13 k14 k15] n0 n1 bl = G := ⟨_, rfl⟩
  have HG := Aside0.mk hG
  clear hG
  go_loopw [9, 10] (fun v9 v10 w' => ∃ (m : Nat) (at_ : Int), v10 = .int .i64 at_ ∧ Aside0 (at_ = (m : Int)) ∧ Aside0 (m ≤ l3.length) ∧ Aside0 (Kd.R (Kd.int .u8) 5 w' W0.heap.size (fun _ => True) v9 (xtea_out G l3 m)) ∧ Aside0 (Below W0.heap.size W0 w')) (fun v9 v10 w' => match v10 with | .int _ a => l3.length - a.toNat | _ => 0)
  case atStart => exact ⟨0, 0, rfl, ⟨rfl⟩, ⟨Nat.zero_le _⟩, HO, HB⟩
  case round =>
    clear HO HB
    obtain ⟨m, at_, rfl, HAT, HM, HO, HB⟩ := hrel
    have hat := HAT.out
    have hm := HM.out
    have hln := HLEN.out
    by_cases hlt : m < l3.length
    · obtain ⟨r1, r2, hr⟩ : ∃ r1 r2, xtea_blk [xtea_wd k0 k1 k2 k3, xtea_wd k4 k5 k6 k7, xtea_wd k8 k9 k10 k11, xtea_wd k12 k13 k14 k15] ((n0 + (bl + ((m / 8 : Nat) : Int)) % 4294967296) % 4294967296) n1 = (r1, r2) := ⟨_, _, rfl⟩
      have HF := Aside0.mk (show carapaceref02_Block.f k0 k1 k2 k3 k4 k5 k6 k7 k8 k9 k10 k11 k12 k13 k14 k15 ((n0 + (bl + ((m / 8 : Nat) : Int)) % 4294967296) % 4294967296) n1 = some (r1, r2) by
        unfold carapaceref02_Block.f xtea_Block.f
        rw [if_pos ⟨by simp only [List.mem_cons, List.not_mem_nil, or_false, forall_eq_or_imp, forall_eq]; exact ⟨h0.out, h1.out, h2.out, h3.out, h4.out, h5.out, h6.out, h7.out, h8.out, h9.out, h10.out, h11.out, h12.out, h13.out, h14.out, h15.out⟩, by omega, hn1.out⟩, ← hr]
        rfl)
      have HRR := Aside0.mk hr
      have HLT := Aside0.mk hlt
      have HKK := Aside0.mk (blk_below HKEY.out HB.out)
      obtain ⟨z0, z1⟩ := xtea_cell2 (blk_below HNON.out HB.out)
      have dl : decide (at_ < (l3.length : Int)) = true := decide_eq_true (by omega)
      have HRG := Aside0.mk (show (0 ≤ r1 ∧ r1 < 4294967296) ∧ (0 ≤ r2 ∧ r2 < 4294967296) by have h := xtea_blk_range [xtea_wd k0 k1 k2 k3, xtea_wd k4 k5 k6 k7, xtea_wd k8 k9 k10 k11, xtea_wd k12 k13 k14 k15] ((n0 + (bl + ((m / 8 : Nat) : Int)) % 4294967296) % 4294967296) n1; rw [hr] at h; exact h)
      have HX8 := Aside0.mk (show (n0 + bl + wrap64 (at_.tdiv 8)) % 4294967296 = (n0 + (bl + ((m / 8 : Nat) : Int)) % 4294967296) % 4294967296 by rw [Int.tdiv_eq_ediv_of_nonneg (by omega), hat]; unfold wrap64; omega)
      have HT4 := Aside0.mk (show at_.tmod 4 = ((m % 4 : Nat) : Int) by rw [Int.tmod_eq_emod_of_nonneg (by omega), hat]; rfl)
      have HT2 := Aside0.mk (show (wrap64 (at_.tdiv 4)).tmod 2 = ((m / 4 % 2 : Nat) : Int) by rw [Int.tdiv_eq_ediv_of_nonneg (by omega), hat, show wrap64 ((m : Int) / 4) = ((m / 4 : Nat) : Int) by unfold wrap64; omega, Int.tmod_eq_emod_of_nonneg (by omega)]; rfl)
      have b0 : (0 ≤ (wrap64 (at_.tdiv 4)).tmod 2) = True := eq_true (by rw [HT2.out]; omega)
      have b1 : ((wrap64 (at_.tdiv 4)).tmod 2 < 2) = True := eq_true (by rw [HT2.out]; omega)
      clear hat hm hln hlt hr
      go_wp2_with (first
        | ((with_reducible refine gate_dst (N := 21) rfl ?_); refine wpList_load_mid rfl 44 (Operand.tmp 4) rfl w.heap.size 0 rfl [.int .u8 k0, .int .u8 k1, .int .u8 k2, .int .u8 k3, .int .u8 k4, .int .u8 k5, .int .u8 k6, .int .u8 k7, .int .u8 k8, .int .u8 k9, .int .u8 k10, .int .u8 k11, .int .u8 k12, .int .u8 k13, .int .u8 k14, .int .u8 k15] _ (xtea_range HKK.out) Try.underlying44 rfl (by show _ = some 16; kernel_rfl) ?_)
        | (go_at_call 39; (with_reducible refine (carapaceref02_Block.calls k0 k1 k2 k3 k4 k5 k6 k7 k8 k9 k10 k11 k12 k13 k14 k15 _ _ r1 r2 _ ?hf).mono ?_); (case hf => rw [HX8.out]; exact HF.out); rintro e w1 ⟨rfl, hb⟩; have HB2 := Aside0.mk hb; clear hb))
      have HO1 := Aside0.mk (Kd.R_alloc (Kd.R_below HO.out HB2.out) (.cells #[.int .u32 r1, .int .u32 r2] 46))
      have HB1 := Aside0.mk (below_alloc (below_then HB.out HB.out.size HB2.out) (.cells #[.int .u32 r1, .int .u32 r2] 46))
      clear HO HB dl z0 z1
      generalize w1.alloc (.cells #[.int .u32 r1, .int .u32 r2] 46) = W2 at *
      go_loopw [12, 13] (fun v12 v13 w' => ∃ (jj : Nat) (jv x : Int), v12 = .int .u32 x ∧ v13 = .int .i64 jv ∧ Aside0 (jv = (jj : Int)) ∧ Aside0 (jj ≤ m % 4) ∧ Aside0 (x = (if ((wrap64 (at_.tdiv 4)).tmod 2).toNat = 0 then r1 else r2) / 2 ^ (8 * jj)) ∧ Aside0 (w' = W2)) (fun v12 v13 w' => match v13 with | .int _ a => 4 - a.toNat | _ => 0)
      case atStart => exact ⟨0, 0, _, xtea_pick r1 r2 _ _, rfl, ⟨rfl⟩, ⟨Nat.zero_le _⟩, ⟨by simp⟩, ⟨rfl⟩⟩
      case round =>
        obtain ⟨jj, jv, x, rfl, rfl, HJ, HJM, HXV, HW⟩ := hrel
        obtain rfl := HW.out
        clear HW
        have hj := HJ.out
        have hjm := HJM.out
        by_cases hjl : jj < m % 4
        · have dl : decide (jv < at_.tmod 4) = true := decide_eq_true (by rw [HT4.out]; omega)
          clear hj hjm
          have HJL := Aside0.mk hjl
          clear hjl
          go_wp2
          have hjl := HJL.out
          have hw : wrap64 (jv + 1) = ((jj + 1 : Nat) : Int) := by rw [HJ.out]; unfold wrap64; omega
          refine ⟨⟨jj + 1, _, _, rfl, rfl, ⟨hw⟩, ⟨hjl⟩, ⟨?_⟩, ⟨trivial⟩⟩, ?_⟩
          · rw [HXV.out]
            refine xtea_shift _ ?_ jj
            have := HRG.out
            split <;> omega
          · rw [hw, HJ.out]
            show 4 - (((jj + 1 : Nat) : Int)).toNat < 4 - ((jj : Int)).toNat
            omega
        · have dl : decide (jv < at_.tmod 4) = false := decide_eq_false (by rw [HT4.out]; omega)
          obtain rfl : jj = m % 4 := by omega
          have n0_ : (0 ≤ at_) = True := eq_true (by rw [HAT.out]; omega)
          have m0_ : (at_ < (l3.length : Int)) = True := eq_true (by rw [HAT.out]; have := HLT.out; omega)
          obtain ⟨a0, rfl, kz⟩ := Kd.at_int HR3.out at_ (by rw [HAT.out]; omega) (by rw [HAT.out]; have := HLT.out; omega)
          replace kz := (HB1.out.cell (Nat.lt_of_lt_of_le (World.block_lt_of_cell? w _ kz) HBW.out.size)).trans ((HBW.out.cell (World.block_lt_of_cell? w _ kz)).trans kz)
          clear hj hjm hjl
          go_wp2_with (first
            | ((with_reducible refine gate_builtin (b := .append) (xs := #[.tmp 47, .tmp 56]) rfl ?_); at_builtin; refine Kd.R_append (Kd.int .u8) (w0 := W0) W0.heap.size rfl (.tmp 47) (.tmp 56) 23 5 (.int .u8 0) 1 rfl Try.underlying23 (by kernel_rfl) rfl (by decide) (by omega) _ (xtea_out G l3 m) (Go.bits .xor .u8 (rd l3 at_) (x.tmod 256 % 256)) [.int .u8 (Go.bits .xor .u8 (rd l3 at_) (x.tmod 256 % 256))] (fun _ => True) (fun _ => False) rfl rfl ?aP (fun _ hk => hk.elim) ?aF ?aO ?aB ?aS ?aL ?_; (case aP => exact rfl); (case aB => exact HB1.out); (case aF => exact (fun _ _ => trivial)); (case aO => exact HO1.out); (case aS => exact HB1.out.size); (case aL => rw [xtea_out_length]; have := HLEN.out; have := HLT.out; omega); intro v2 w3 ho hb hg hat; have HO := Aside0.mk ho; have HB := Aside0.mk hb; clear ho hb hg hat))
          have hlt := HLT.out
          have hln := HLEN.out
          have hw : wrap64 (at_ + 1) = ((m + 1 : Nat) : Int) := by rw [HAT.out]; unfold wrap64; omega
          have hx0 : 0 ≤ x := by
            rw [HXV.out]
            have := HRG.out
            exact Int.ediv_nonneg (by split <;> omega) (Int.le_of_lt (Int.pow_pos (by decide)))
          refine ⟨⟨m + 1, _, rfl, ⟨hw⟩, ⟨hlt⟩, ⟨?_⟩, HB⟩, ?_⟩
          · have h := HO.out
            rw [show Go.bits .xor .u8 (rd l3 at_) (x.tmod 256 % 256) = Go.bits .xor .u8 (l3.getD m 0) (G m) by
              rw [Int.tmod_eq_emod_of_nonneg hx0, show x % 256 % 256 = x % 256 by omega, HXV.out, ← HG.out]
              unfold xtea_kb rd
              rw [HRR.out, HT2.out, Int.toNat_natCast, HAT.out, Int.toNat_natCast], ← xtea_out_succ] at h
            exact h
          · rw [hw, HAT.out]
            show l3.length - (((m + 1 : Nat) : Int)).toNat < l3.length - ((m : Int)).toNat
            omega
    · have dl : decide (at_ < (l3.length : Int)) = false := decide_eq_false (by omega)
      obtain rfl : m = l3.length := by omega
      clear hat hm hln hlt
      go_wp2
      go_ret
      exact ⟨_, rfl, by rw [HG.out]; exact Kd.R_lower HO.out HBW.out.size, below_then HBW.out HBW.out.size HB.out⟩
def carapaceref02_From.f (a0_0 : Int) (a0_1 : Int) (a0_2 : Int) (a0_3 : Int) (a0_4 : Int) (a0_5 : Int) (a0_6 : Int) (a0_7 : Int) (a0_8 : Int) (a0_9 : Int) (a0_10 : Int) (a0_11 : Int) (a0_12 : Int) (a0_13 : Int) (a0_14 : Int) (a0_15 : Int) (a1_0 : Int) (a1_1 : Int) (a2 : Int) (l3 : List Int) : Option (List Int) := xtea_From.f a0_0 a0_1 a0_2 a0_3 a0_4 a0_5 a0_6 a0_7 a0_8 a0_9 a0_10 a0_11 a0_12 a0_13 a0_14 a0_15 a1_0 a1_1 a2 l3
theorem carapaceref02_From.calls (a0_0 : Int) (a0_1 : Int) (a0_2 : Int) (a0_3 : Int) (a0_4 : Int) (a0_5 : Int) (a0_6 : Int) (a0_7 : Int) (a0_8 : Int) (a0_9 : Int) (a0_10 : Int) (a0_11 : Int) (a0_12 : Int) (a0_13 : Int) (a0_14 : Int) (a0_15 : Int) (a1_0 : Int) (a1_1 : Int) (a2 : Int) (A3 : Option Addr) (c3 : Nat) (l3 : List Int) (r : List Int) (w : World) (hr3 : Kd.C (Kd.int .u8) w A3 l3.length l3) (hc3 : l3.length ≤ c3) (h : carapaceref02_From.f a0_0 a0_1 a0_2 a0_3 a0_4 a0_5 a0_6 a0_7 a0_8 a0_9 a0_10 a0_11 a0_12 a0_13 a0_14 a0_15 a1_0 a1_1 a2 l3 = some r) :
    Calls Try.prog 35 #[.agg #[.int .u8 a0_0, .int .u8 a0_1, .int .u8 a0_2, .int .u8 a0_3, .int .u8 a0_4, .int .u8 a0_5, .int .u8 a0_6, .int .u8 a0_7, .int .u8 a0_8, .int .u8 a0_9, .int .u8 a0_10, .int .u8 a0_11, .int .u8 a0_12, .int .u8 a0_13, .int .u8 a0_14, .int .u8 a0_15], .agg #[.int .u32 a1_0, .int .u32 a1_1], .int .u32 a2, .slice A3 l3.length c3] w fun e w' => ∃ v0_ : Value, e = .returned (v0_) ∧ Kd.R (Kd.int .u8) 5 w' w.heap.size (fun _ => True) v0_ r ∧ Below w.heap.size w w' := by
  unfold carapaceref02_From.f xtea_From.f at h
  split at h
  case isFalse => cases h
  case isTrue hg =>
  obtain ⟨hk, ha, hb, hc, hl⟩ := hg
  injection h with h
  subst h
  exact carapaceref02_From.walk a0_0 a0_1 a0_2 a0_3 a0_4 a0_5 a0_6 a0_7 a0_8 a0_9 a0_10 a0_11 a0_12 a0_13 a0_14 a0_15 a1_0 a1_1 a2 A3 c3 l3 w ⟨hk _ (by simp)⟩ ⟨hk _ (by simp)⟩ ⟨hk _ (by simp)⟩ ⟨hk _ (by simp)⟩ ⟨hk _ (by simp)⟩ ⟨hk _ (by simp)⟩ ⟨hk _ (by simp)⟩ ⟨hk _ (by simp)⟩ ⟨hk _ (by simp)⟩ ⟨hk _ (by simp)⟩ ⟨hk _ (by simp)⟩ ⟨hk _ (by simp)⟩ ⟨hk _ (by simp)⟩ ⟨hk _ (by simp)⟩ ⟨hk _ (by simp)⟩ ⟨hk _ (by simp)⟩ ⟨ha⟩ ⟨hb⟩ ⟨hc⟩ hl hr3 hc3


/-! ### carapaceref02_Stream: function 37 -/
def carapaceref02_Stream.f (a0_0 : Int) (a0_1 : Int) (a0_2 : Int) (a0_3 : Int) (a0_4 : Int) (a0_5 : Int) (a0_6 : Int) (a0_7 : Int) (a0_8 : Int) (a0_9 : Int) (a0_10 : Int) (a0_11 : Int) (a0_12 : Int) (a0_13 : Int) (a0_14 : Int) (a0_15 : Int) (a1_0 : Int) (a1_1 : Int) (l2 : List Int) : Option (List Int) := (carapaceref02_From.f a0_0 a0_1 a0_2 a0_3 a0_4 a0_5 a0_6 a0_7 a0_8 a0_9 a0_10 a0_11 a0_12 a0_13 a0_14 a0_15 a1_0 a1_1 0 l2).bind fun t129 => (some t129)
set_option maxHeartbeats 8000000 in
set_option maxRecDepth 100000 in
theorem carapaceref02_Stream.calls (a0_0 : Int) (a0_1 : Int) (a0_2 : Int) (a0_3 : Int) (a0_4 : Int) (a0_5 : Int) (a0_6 : Int) (a0_7 : Int) (a0_8 : Int) (a0_9 : Int) (a0_10 : Int) (a0_11 : Int) (a0_12 : Int) (a0_13 : Int) (a0_14 : Int) (a0_15 : Int) (a1_0 : Int) (a1_1 : Int) (A2 : Option Addr) (c2 : Nat) (l2 : List Int) (r : List Int) (w : World) (hr2 : Kd.C (Kd.int .u8) w A2 l2.length l2) (hc2 : l2.length ≤ c2) (h : carapaceref02_Stream.f a0_0 a0_1 a0_2 a0_3 a0_4 a0_5 a0_6 a0_7 a0_8 a0_9 a0_10 a0_11 a0_12 a0_13 a0_14 a0_15 a1_0 a1_1 l2 = some r) :
    Calls Try.prog 37 #[.agg #[.int .u8 a0_0, .int .u8 a0_1, .int .u8 a0_2, .int .u8 a0_3, .int .u8 a0_4, .int .u8 a0_5, .int .u8 a0_6, .int .u8 a0_7, .int .u8 a0_8, .int .u8 a0_9, .int .u8 a0_10, .int .u8 a0_11, .int .u8 a0_12, .int .u8 a0_13, .int .u8 a0_14, .int .u8 a0_15], .agg #[.int .u32 a1_0, .int .u32 a1_1], .slice A2 l2.length c2] w fun e w' => ∃ v0_ : Value, e = .returned (v0_) ∧ Kd.R (Kd.int .u8) 5 w' w.heap.size (fun _ => True) v0_ r ∧ Below w.heap.size w w' := by
  have hu44 := Try.underlying44
  have hu47 := Try.underlying47
  have HR2 := Aside0.mk hr2
  have HC2 := Aside0.mk hc2
  clear hr2 hc2
  have HB := Aside0.mk (Below.refl w.heap.size w)
  have H : ((carapaceref02_From.f a0_0 a0_1 a0_2 a0_3 a0_4 a0_5 a0_6 a0_7 a0_8 a0_9 a0_10 a0_11 a0_12 a0_13 a0_14 a0_15 a1_0 a1_1 0 l2).bind fun t129 => (some t129)) = some r := h
  clear h
  replace H := Option.bind_eq_some_iff.mp H
  obtain ⟨t129, A40, H⟩ := H
  replace H : (some t129) = some r := H
  have A4 := Aside0.mk A40
  clear A40
  obtain rfl := Option.some.inj H
  go_enter Try.func37, Try.ntmps37
  go_wp2_with (first | ((with_reducible refine gate_dst (N := 3) rfl ?_); refine box_event ?hg (N := 3) ?hd (cs := #[.int .u8 a0_0, .int .u8 a0_1, .int .u8 a0_2, .int .u8 a0_3, .int .u8 a0_4, .int .u8 a0_5, .int .u8 a0_6, .int .u8 a0_7, .int .u8 a0_8, .int .u8 a0_9, .int .u8 a0_10, .int .u8 a0_11, .int .u8 a0_12, .int .u8 a0_13, .int .u8 a0_14, .int .u8 a0_15]) (t := 44) ?hr ?_; (case hd => rfl); (case hg => rfl); (case hr => first | (go_simp; done) | (go_simp; rfl)); intro gb127 hg w5 hbox hb; have n0_ := Aside0.mk (below_step (by repeat (first | (with_reducible first | exact HB.out | apply below_alloc | apply pw_below_drewN | apply below_drew1) | exact HB.out)) hb); have n1_ := Aside0.mk (hbox); have n2_ := Aside0.mk ((by rw [hg]; exact (below_size (by repeat (first | (with_reducible first | exact HB.out | apply below_alloc | apply pw_below_drewN | apply below_drew1) | exact HB.out))) : w.heap.size ≤ gb127)); have n3_ := Aside0.mk ((by rw [hg]; exact (below_size (by repeat (first | (with_reducible first | exact HB.out | apply below_alloc | apply pw_below_drewN | apply below_drew1) | exact HB.out))) : w.heap.size ≤ gb127)); clear HB; have HB := n0_; have BK127 := n1_; have GW127 := n2_; have GE127 := n3_; clear n0_ n1_ n2_ n3_; clear hb hbox hg) | ((with_reducible refine gate_dst (N := 4) rfl ?_); refine box_event ?hg (N := 4) ?hd (cs := #[.int .u32 a1_0, .int .u32 a1_1]) (t := 47) ?hr ?_; (case hd => rfl); (case hg => rfl); (case hr => first | (go_simp; done) | (go_simp; rfl)); intro gb128 hg w6 hbox hb; have n0_ := Aside0.mk (blk_below (g := gb127) (o := .cells #[.int .u8 a0_0, .int .u8 a0_1, .int .u8 a0_2, .int .u8 a0_3, .int .u8 a0_4, .int .u8 a0_5, .int .u8 a0_6, .int .u8 a0_7, .int .u8 a0_8, .int .u8 a0_9, .int .u8 a0_10, .int .u8 a0_11, .int .u8 a0_12, .int .u8 a0_13, .int .u8 a0_14, .int .u8 a0_15] 44 (0, 0)) (by (with_reducible repeat (first | refine blk_drewN ?_ _ | refine blk_drew ?_ | refine blk_alloc ?_ _)); exact BK127.out) hb); have n1_ := Aside0.mk (below_step (by repeat (first | (with_reducible first | exact HB.out | apply below_alloc | apply pw_below_drewN | apply below_drew1 | refine below_set ?_ GE127.out) | exact HB.out)) hb); have n2_ := Aside0.mk (hbox); have n3_ := Aside0.mk ((by rw [hg]; exact (below_size (by repeat (first | (with_reducible first | exact HB.out | apply below_alloc | apply pw_below_drewN | apply below_drew1 | refine below_set ?_ GE127.out) | exact HB.out))) : w.heap.size ≤ gb128)); have n4_ := Aside0.mk ((by rw [hg]; exact (below_size (by repeat (first | (with_reducible first | exact HB.out | apply below_alloc | apply pw_below_drewN | apply below_drew1 | refine below_set ?_ GE127.out) | exact HB.out))) : w.heap.size ≤ gb128)); have n5_ := Aside0.mk ((by rw [hg]; exact Nat.ne_of_lt (blk_lt (g := gb127) (o := .cells #[.int .u8 a0_0, .int .u8 a0_1, .int .u8 a0_2, .int .u8 a0_3, .int .u8 a0_4, .int .u8 a0_5, .int .u8 a0_6, .int .u8 a0_7, .int .u8 a0_8, .int .u8 a0_9, .int .u8 a0_10, .int .u8 a0_11, .int .u8 a0_12, .int .u8 a0_13, .int .u8 a0_14, .int .u8 a0_15] 44 (0, 0)) (by (with_reducible repeat (first | refine blk_drewN ?_ _ | refine blk_drew ?_ | refine blk_alloc ?_ _)); exact BK127.out)) : gb127 ≠ gb128)); have n6_ := Aside0.mk ((by rw [hg]; exact Nat.ne_of_gt (blk_lt (g := gb127) (o := .cells #[.int .u8 a0_0, .int .u8 a0_1, .int .u8 a0_2, .int .u8 a0_3, .int .u8 a0_4, .int .u8 a0_5, .int .u8 a0_6, .int .u8 a0_7, .int .u8 a0_8, .int .u8 a0_9, .int .u8 a0_10, .int .u8 a0_11, .int .u8 a0_12, .int .u8 a0_13, .int .u8 a0_14, .int .u8 a0_15] 44 (0, 0)) (by (with_reducible repeat (first | refine blk_drewN ?_ _ | refine blk_drew ?_ | refine blk_alloc ?_ _)); exact BK127.out)) : gb128 ≠ gb127)); clear BK127; clear HB; have BK127 := n0_; have HB := n1_; have BK128 := n2_; have GW128 := n3_; have GE128 := n4_; have NB127_128 := n5_; have NB128_127 := n6_; clear n0_ n1_ n2_ n3_ n4_ n5_ n6_; clear hb hbox hg; have hnb7 := NB127_128.out; have hnc7 := NB128_127.out; have hcz8_0 : w6.cell? ⟨gb127, 0, none⟩ = some (.int .u8 a0_0) := (blk_cell BK127.out 0).trans rfl; have hcz8_1 : w6.cell? ⟨gb127, 1, none⟩ = some (.int .u8 a0_1) := (blk_cell BK127.out 1).trans rfl; have hcz8_2 : w6.cell? ⟨gb127, 2, none⟩ = some (.int .u8 a0_2) := (blk_cell BK127.out 2).trans rfl; have hcz8_3 : w6.cell? ⟨gb127, 3, none⟩ = some (.int .u8 a0_3) := (blk_cell BK127.out 3).trans rfl; have hcz8_4 : w6.cell? ⟨gb127, 4, none⟩ = some (.int .u8 a0_4) := (blk_cell BK127.out 4).trans rfl; have hcz8_5 : w6.cell? ⟨gb127, 5, none⟩ = some (.int .u8 a0_5) := (blk_cell BK127.out 5).trans rfl; have hcz8_6 : w6.cell? ⟨gb127, 6, none⟩ = some (.int .u8 a0_6) := (blk_cell BK127.out 6).trans rfl; have hcz8_7 : w6.cell? ⟨gb127, 7, none⟩ = some (.int .u8 a0_7) := (blk_cell BK127.out 7).trans rfl; have hcz8_8 : w6.cell? ⟨gb127, 8, none⟩ = some (.int .u8 a0_8) := (blk_cell BK127.out 8).trans rfl; have hcz8_9 : w6.cell? ⟨gb127, 9, none⟩ = some (.int .u8 a0_9) := (blk_cell BK127.out 9).trans rfl; have hcz8_10 : w6.cell? ⟨gb127, 10, none⟩ = some (.int .u8 a0_10) := (blk_cell BK127.out 10).trans rfl; have hcz8_11 : w6.cell? ⟨gb127, 11, none⟩ = some (.int .u8 a0_11) := (blk_cell BK127.out 11).trans rfl; have hcz8_12 : w6.cell? ⟨gb127, 12, none⟩ = some (.int .u8 a0_12) := (blk_cell BK127.out 12).trans rfl; have hcz8_13 : w6.cell? ⟨gb127, 13, none⟩ = some (.int .u8 a0_13) := (blk_cell BK127.out 13).trans rfl; have hcz8_14 : w6.cell? ⟨gb127, 14, none⟩ = some (.int .u8 a0_14) := (blk_cell BK127.out 14).trans rfl; have hcz8_15 : w6.cell? ⟨gb127, 15, none⟩ = some (.int .u8 a0_15) := (blk_cell BK127.out 15).trans rfl; have hfz8_0 := blk_frozen BK127.out 0; have hfz8_1 := blk_frozen BK127.out 1; have hfz8_2 := blk_frozen BK127.out 2; have hfz8_3 := blk_frozen BK127.out 3; have hfz8_4 := blk_frozen BK127.out 4; have hfz8_5 := blk_frozen BK127.out 5; have hfz8_6 := blk_frozen BK127.out 6; have hfz8_7 := blk_frozen BK127.out 7; have hfz8_8 := blk_frozen BK127.out 8; have hfz8_9 := blk_frozen BK127.out 9; have hfz8_10 := blk_frozen BK127.out 10; have hfz8_11 := blk_frozen BK127.out 11; have hfz8_12 := blk_frozen BK127.out 12; have hfz8_13 := blk_frozen BK127.out 13; have hfz8_14 := blk_frozen BK127.out 14; have hfz8_15 := blk_frozen BK127.out 15; have hcz9_0 : w6.cell? ⟨gb128, 0, none⟩ = some (.int .u32 a1_0) := (blk_cell BK128.out 0).trans rfl; have hcz9_1 : w6.cell? ⟨gb128, 1, none⟩ = some (.int .u32 a1_1) := (blk_cell BK128.out 1).trans rfl; have hfz9_0 := blk_frozen BK128.out 0; have hfz9_1 := blk_frozen BK128.out 1) | ((with_reducible refine gate_callee (f := 35) rfl ?_); refine goesL_ (some 10) rfl rfl Try.func35 (by kernel_rfl) rfl #[.agg #[.int .u8 a0_0, .int .u8 a0_1, .int .u8 a0_2, .int .u8 a0_3, .int .u8 a0_4, .int .u8 a0_5, .int .u8 a0_6, .int .u8 a0_7, .int .u8 a0_8, .int .u8 a0_9, .int .u8 a0_10, .int .u8 a0_11, .int .u8 a0_12, .int .u8 a0_13, .int .u8 a0_14, .int .u8 a0_15], .agg #[.int .u32 a1_0, .int .u32 a1_1], .int .u32 0, .slice A2 l2.length c2] rfl (by (try simp only [List.map_toArray, List.map_cons, List.map_nil]); first | done | rfl | (simp only [List.length_drop, List.length_take]; rfl)) ?_; (with_reducible refine (carapaceref02_From.calls a0_0 a0_1 a0_2 a0_3 a0_4 a0_5 a0_6 a0_7 a0_8 a0_9 a0_10 a0_11 a0_12 a0_13 a0_14 a0_15 a1_0 a1_1 0 _ _ l2 t129 _ ?side1 ?side2 A4.out).mono ?_); (case side1 => repeat (first | exact (Kd.C_below HR2.out HB.out) | (with_reducible refine Kd.C_alloc ?_ _) | (with_reducible refine Kd.C_drewN ?_ _) | (with_reducible refine Kd.C_drew ?_))); (case side2 => exact HC2.out); rintro e w10 ⟨v130, rfl, ho0, hb⟩; refine ⟨_, rfl, ?_⟩; have n0_ := Aside0.mk (Kd.R_lower ho0 (below_size (by repeat (first | (with_reducible first | exact HB.out | apply below_alloc | apply pw_below_drewN | apply below_drew1 | refine below_set ?_ GE127.out | refine below_set ?_ GE128.out) | exact HB.out)))); have n1_ := Aside0.mk (blk_below (g := gb127) (o := .cells #[.int .u8 a0_0, .int .u8 a0_1, .int .u8 a0_2, .int .u8 a0_3, .int .u8 a0_4, .int .u8 a0_5, .int .u8 a0_6, .int .u8 a0_7, .int .u8 a0_8, .int .u8 a0_9, .int .u8 a0_10, .int .u8 a0_11, .int .u8 a0_12, .int .u8 a0_13, .int .u8 a0_14, .int .u8 a0_15] 44 (0, 0)) (by (with_reducible repeat (first | refine blk_drewN ?_ _ | refine blk_drew ?_ | refine blk_alloc ?_ _)); exact BK127.out) hb); have n2_ := Aside0.mk (blk_below (g := gb128) (o := .cells #[.int .u32 a1_0, .int .u32 a1_1] 47 (0, 0)) (by (with_reducible repeat (first | refine blk_drewN ?_ _ | refine blk_drew ?_ | refine blk_alloc ?_ _)); exact BK128.out) hb); have n3_ := Aside0.mk (below_step (by repeat (first | (with_reducible first | exact HB.out | apply below_alloc | apply pw_below_drewN | apply below_drew1 | refine below_set ?_ GE127.out | refine below_set ?_ GE128.out) | exact HB.out)) hb); clear BK127; clear BK128; clear HB; have HO131 := n0_; have BK127 := n1_; have BK128 := n2_; have HB := n3_; clear n0_ n1_ n2_ n3_; (try clear hb); (try clear hb2); (try clear hk); (try clear hi); (try clear ho0)))
  go_ret
  exact ⟨_, by first | rfl | (simp [errW_none, errW_some] <;> rfl) | (simp [*, errW_none, errW_some] <;> rfl), by (with_reducible repeat (first | apply Kd.R_alloc | apply Kd.R_drewN | apply Kd.R_drew)); exact HO131.out, by repeat (first | (with_reducible first | exact HB.out | apply below_alloc | apply pw_below_drewN | apply below_drew1 | refine below_set ?_ GE127.out | refine below_set ?_ GE128.out) | exact HB.out)⟩

-- NOT PRINTED: function 12 (carapacelaw02_XteaTells)

end Go.Proofs.Ytmibdlapjddfoaa.QXtea
