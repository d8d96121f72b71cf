/- XteaBack: the plain law and the walk. -/
import Derived.Test.YtmibdlapjddfoaaXteaF
import Derived.Test.YtmibdlapjddfoaaQXteax6
namespace Go.Proofs.Ytmibdlapjddfoaa.XteaBackW
open Go.RowKit Go.Proofs.YtmibdlapjddfoaaW.PrintWords Go.Proofs.Ytmibdlapjddfoaa.Bv Go.Proofs.Ytmibdlapjddfoaa.XteaF Go.Proofs.Ytmibdlapjddfoaa.QXtea
theorem back_l0 (k0 k1 k2 k3 k4 k5 k6 k7 k8 k9 k10 k11 k12 k13 k14 k15 n0 n1 : Int) (l : List Int) (hF : Fits k0 k1 k2 k3 k4 k5 k6 k7 k8 k9 k10 k11 k12 k13 k14 k15 n0 n1) (hn : l.length ≤ 600) (d : Nat) : ∀ i : Nat, i + d = 11 →
    Ev (fun k => carapacelaw02_XteaBack.l0 k l true (xtea_out (xtea_kb [xtea_wd k0 k1 k2 k3, xtea_wd k4 k5 k6 k7, xtea_wd k8 k9 k10 k11, xtea_wd k12 k13 k14 k15] n0 n1 0) l l.length) (i : Int) k0 k1 k2 k3 k4 k5 k6 k7 k8 k9 k10 k11 k12 k13 k14 k15 n0 n1) true := by
  have stop : ∀ i : Nat, Ev (fun k => carapacelaw02_XteaBack.j2 k l true (xtea_out (xtea_kb [xtea_wd k0 k1 k2 k3, xtea_wd k4 k5 k6 k7, xtea_wd k8 k9 k10 k11, xtea_wd k12 k13 k14 k15] n0 n1 0) l l.length) (i : Int) false k0 k1 k2 k3 k4 k5 k6 k7 k8 k9 k10 k11 k12 k13 k14 k15 n0 n1) true := fun i =>
    Ev.step (f := fun _ => some true) (fun k => by simp only [carapacelaw02_XteaBack.j2]; rw [if_neg (by simp)]) (Ev.now _)
  have hw : wrap64 ((l.length : Int) / 8) = ((l.length / 8 : Nat) : Int) := by unfold wrap64; omega
  induction d with
  | zero =>
    intro i h
    obtain rfl : i = 11 := by omega
    refine Ev.step (fun k => ?_) (stop 11)
    simp only [carapacelaw02_XteaBack.l0]
    by_cases h : (((11 : Nat) : Int)) ≤ wrap64 ((l.length : Int) / 8)
    · rw [if_pos h]
      rfl
    · rw [if_neg h]
  | succ d ih =>
    intro i h
    by_cases hi : (i : Int) ≤ wrap64 ((l.length : Int) / 8)
    · by_cases h10 : (i : Int) < 10
      · rw [hw] at hi
        have h8 : 8 * i ≤ l.length := by omega
        have hw8 : wrap64 (8 * (i : Int)) = ((8 * i : Nat) : Int) := by unfold wrap64; omega
        have hwi : wrap64 ((i : Int) + 1) = ((i + 1 : Nat) : Int) := by unfold wrap64; omega
        have f1 := Stream_f k0 k1 k2 k3 k4 k5 k6 k7 k8 k9 k10 k11 k12 k13 k14 k15 n0 n1 (l.take (8 * i)) hF (by rw [List.length_take]; omega)
        have f2 := From_f k0 k1 k2 k3 k4 k5 k6 k7 k8 k9 k10 k11 k12 k13 k14 k15 n0 n1 ((i : Int) % 4294967296) (l.drop (8 * i)) hF ⟨Int.emod_nonneg _ (by decide), Int.emod_lt_of_pos _ (by decide)⟩ (by rw [List.length_drop]; omega)
        have e := same_ev (xtea_out (xtea_kb [xtea_wd k0 k1 k2 k3, xtea_wd k4 k5 k6 k7, xtea_wd k8 k9 k10 k11, xtea_wd k12 k13 k14 k15] n0 n1 0) l l.length) (by rw [xtea_out_length]; omega)
        have e2 : Ev (fun k => (carapaceref01_Same.f k (xtea_out (xtea_kb [xtea_wd k0 k1 k2 k3, xtea_wd k4 k5 k6 k7, xtea_wd k8 k9 k10 k11, xtea_wd k12 k13 k14 k15] n0 n1 0) l l.length) (xtea_out (xtea_kb [xtea_wd k0 k1 k2 k3, xtea_wd k4 k5 k6 k7, xtea_wd k8 k9 k10 k11, xtea_wd k12 k13 k14 k15] n0 n1 0) l l.length)).bind fun t => if t = true then carapacelaw02_XteaBack.l0 k l true (xtea_out (xtea_kb [xtea_wd k0 k1 k2 k3, xtea_wd k4 k5 k6 k7, xtea_wd k8 k9 k10 k11, xtea_wd k12 k13 k14 k15] n0 n1 0) l l.length) ((i + 1 : Nat) : Int) k0 k1 k2 k3 k4 k5 k6 k7 k8 k9 k10 k11 k12 k13 k14 k15 n0 n1 else some false) true := Ev.bind e (by simpa using ih (i + 1) (by omega))
        have e3 : Ev (fun k => carapacelaw02_XteaBack.j2 k l true (xtea_out (xtea_kb [xtea_wd k0 k1 k2 k3, xtea_wd k4 k5 k6 k7, xtea_wd k8 k9 k10 k11, xtea_wd k12 k13 k14 k15] n0 n1 0) l l.length) (i : Int) true k0 k1 k2 k3 k4 k5 k6 k7 k8 k9 k10 k11 k12 k13 k14 k15 n0 n1) true := by
          refine Ev.step (fun k => ?_) e2
          simp only [carapacelaw02_XteaBack.j2]
          rw [if_pos trivial, Option.bind_some, hw8, if_pos (by omega), if_pos (by omega), Int.toNat_natCast, f1, Option.bind_some, if_pos (by simp only [List.length_nil, xtea_out_length, List.length_take]; omega), Option.bind_some, f2, Option.bind_some, if_pos (by simp only [List.nil_append, xtea_out_length, List.length_take, List.length_drop]; omega), List.nil_append, out_part _ n0 n1 l i h8, hwi]
        refine Ev.step (fun k => ?_) e3
        simp only [carapacelaw02_XteaBack.l0]
        rw [if_pos (by rw [hw]; exact hi), decide_eq_true h10]
      · refine Ev.step (fun k => ?_) (stop i)
        simp only [carapacelaw02_XteaBack.l0]
        rw [if_pos hi, decide_eq_false h10]
    · refine Ev.step (fun k => ?_) (stop i)
      simp only [carapacelaw02_XteaBack.l0]
      rw [if_neg hi]
theorem back_ev (k0 k1 k2 k3 k4 k5 k6 k7 k8 k9 k10 k11 k12 k13 k14 k15 n0 n1 : Int) (l : List Int) (hk : ∀ x ∈ ([k0, k1, k2, k3, k4, k5, k6, k7, k8, k9, k10, k11, k12, k13, k14, k15] : List Int), 0 ≤ x ∧ x < 256) (h0 : W32 n0) (h1 : W32 n1) (hl : Bytes l) :
    Ev (fun k => carapacelaw02_XteaBack.f k k0 k1 k2 k3 k4 k5 k6 k7 k8 k9 k10 k11 k12 k13 k14 k15 n0 n1 l) true := by
  by_cases h6 : (l.length : Int) > 600
  · refine Ev.congr (f := fun _ => some true) (fun k => ?_) (Ev.now _)
    unfold carapacelaw02_XteaBack.f
    rw [awake, Option.bind_some, if_pos h6]
  have hn : l.length ≤ 600 := by omega
  have hF : Fits k0 k1 k2 k3 k4 k5 k6 k7 k8 k9 k10 k11 k12 k13 k14 k15 n0 n1 := ⟨hk, h0, h1⟩
  have f1 := Stream_f k0 k1 k2 k3 k4 k5 k6 k7 k8 k9 k10 k11 k12 k13 k14 k15 n0 n1 l hF (by omega)
  have f2 := Stream_f k0 k1 k2 k3 k4 k5 k6 k7 k8 k9 k10 k11 k12 k13 k14 k15 n0 n1 (xtea_out (xtea_kb [xtea_wd k0 k1 k2 k3, xtea_wd k4 k5 k6 k7, xtea_wd k8 k9 k10 k11, xtea_wd k12 k13 k14 k15] n0 n1 0) l l.length) hF (by rw [xtea_out_length]; omega)
  rw [xtea_out_length, out_back _ _ hl] at f2
  have hj : Ev (fun k => carapacelaw02_XteaBack.j0 k l true (xtea_out (xtea_kb [xtea_wd k0 k1 k2 k3, xtea_wd k4 k5 k6 k7, xtea_wd k8 k9 k10 k11, xtea_wd k12 k13 k14 k15] n0 n1 0) l l.length) false k0 k1 k2 k3 k4 k5 k6 k7 k8 k9 k10 k11 k12 k13 k14 k15 n0 n1) true := by
    refine Ev.step (fun k => ?_) (back_l0 k0 k1 k2 k3 k4 k5 k6 k7 k8 k9 k10 k11 k12 k13 k14 k15 n0 n1 l hF hn 11 0 (by omega))
    simp only [carapacelaw02_XteaBack.j0]
    rw [if_neg (by simp)]
    rfl
  refine Ev.congr (fun k => ?_) (Ev.bind (f := fun k t => if t = true then carapacelaw02_XteaBack.j0 k l true (xtea_out (xtea_kb [xtea_wd k0 k1 k2 k3, xtea_wd k4 k5 k6 k7, xtea_wd k8 k9 k10 k11, xtea_wd k12 k13 k14 k15] n0 n1 0) l l.length) false k0 k1 k2 k3 k4 k5 k6 k7 k8 k9 k10 k11 k12 k13 k14 k15 n0 n1 else carapacelaw02_XteaBack.j0 k l true (xtea_out (xtea_kb [xtea_wd k0 k1 k2 k3, xtea_wd k4 k5 k6 k7, xtea_wd k8 k9 k10 k11, xtea_wd k12 k13 k14 k15] n0 n1 0) l l.length) true k0 k1 k2 k3 k4 k5 k6 k7 k8 k9 k10 k11 k12 k13 k14 k15 n0 n1) (same_ev l (by omega)) (by simpa using hj))
  unfold carapacelaw02_XteaBack.f
  rw [awake, Option.bind_some, if_neg h6, f1, Option.bind_some, f2, Option.bind_some, show (((xtea_out (xtea_kb [xtea_wd k0 k1 k2 k3, xtea_wd k4 k5 k6 k7, xtea_wd k8 k9 k10 k11, xtea_wd k12 k13 k14 k15] n0 n1 0) l l.length).length : Int) != (l.length : Int)) = false by rw [xtea_out_length]; simp]
theorem walk (w : World) (l0 : List Int) (hl0 : l0.length = 16) (w0 : ∀ x ∈ l0, (Lit.int .u8 x).wf = true) (l1 : List Int) (hl1 : l1.length = 2) (w1 : ∀ x ∈ l1, (Lit.int .u32 x).wf = true) (A2 : Option Addr) (c2 : Nat) (l2 : List Int) (hr2 : Kd.C (Kd.int .u8) w A2 l2.length l2) (hc2 : l2.length ≤ c2) (ok2 : l2.length * 1 ≤ 140737488351232 ∧ l2.length ≤ maxLen ∧ ∀ x ∈ l2, (Lit.int .u8 x).wf = true) :
    Calls Try.prog 13 #[.agg (l0.map (Value.int .u8)).toArray, .agg (l1.map (Value.int .u32)).toArray, .slice A2 l2.length c2] w fun e w' => e = .returned (.bool true) ∧ Below w.heap.size w w' := by
  match l0, hl0, l1, hl1 with
  | [k0, k1, k2, k3, k4, k5, k6, k7, k8, k9, k10, k11, k12, k13, k14, k15], _, [n0, n1], _ =>
    obtain ⟨k, h⟩ := (back_ev k0 k1 k2 k3 k4 k5 k6 k7 k8 k9 k10 k11 k12 k13 k14 k15 n0 n1 l2 (fun x hx => wf_u8 (w0 x hx)) (wf_u32 (w1 n0 (by simp))) (wf_u32 (w1 n1 (by simp))) (fun x hx => wf_u8 (ok2.2.2 x hx))).rounds
    exact carapacelaw02_XteaBack.calls k k0 k1 k2 k3 k4 k5 k6 k7 k8 k9 k10 k11 k12 k13 k14 k15 n0 n1 A2 c2 l2 true ⟨rfl⟩ w hr2 hc2 h
end Go.Proofs.Ytmibdlapjddfoaa.XteaBackW
