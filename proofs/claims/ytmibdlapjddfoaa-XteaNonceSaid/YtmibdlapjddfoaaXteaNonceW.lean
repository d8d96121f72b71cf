/- XteaNonce: the plain law and the walk. -/
import Derived.Test.YtmibdlapjddfoaaXteaF
import Derived.Test.YtmibdlapjddfoaaQXteax7
namespace Go.Proofs.Ytmibdlapjddfoaa.XteaNonceW
open Go.RowKit Go.Proofs.YtmibdlapjddfoaaW.PrintWords Go.Proofs.Ytmibdlapjddfoaa.Bv Go.Proofs.Ytmibdlapjddfoaa.XteaF Go.Proofs.Ytmibdlapjddfoaa.QXtea
theorem nonce_ev (k0 k1 k2 k3 k4 k5 k6 k7 k8 k9 k10 k11 k12 k13 k14 k15 n0 n1 n2 v0 v1 : Int) (hk : ∀ x ∈ ([k0, k1, k2, k3, k4, k5, k6, k7, k8, k9, k10, k11, k12, k13, k14, k15] : List Int), 0 ≤ x ∧ x < 256) (h0 : W32 n0) (h1 : W32 n1) (h2 : W32 n2) (h3 : W32 v0) (h4 : W32 v1) :
    Ev (fun k => carapacelaw02_XteaNonce.f k k0 k1 k2 k3 k4 k5 k6 k7 k8 k9 k10 k11 k12 k13 k14 k15 n0 n1 n2 v0 v1) true := by
  have hn : W32 ((n0 + n2) % 4294967296) := ⟨Int.emod_nonneg _ (by decide), Int.emod_lt_of_pos _ (by decide)⟩
  have f1 := From_f k0 k1 k2 k3 k4 k5 k6 k7 k8 k9 k10 k11 k12 k13 k14 k15 n0 n1 n2 (List.replicate 20 0) ⟨hk, h0, h1⟩ h2 (by decide)
  have f2 := Stream_f k0 k1 k2 k3 k4 k5 k6 k7 k8 k9 k10 k11 k12 k13 k14 k15 ((n0 + n2) % 4294967296) n1 (List.replicate 20 0) ⟨hk, hn, h1⟩ (by decide)
  rw [← out_ext (g := xtea_kb [xtea_wd k0 k1 k2 k3, xtea_wd k4 k5 k6 k7, xtea_wd k8 k9 k10 k11, xtea_wd k12 k13 k14 k15] n0 n1 n2) (l := List.replicate 20 0) (fun j _ => kb_nonce _ n0 n1 n2 j) (fun _ _ => rfl)] at f2
  have f3 := Block_f k0 k1 k2 k3 k4 k5 k6 k7 k8 k9 k10 k11 k12 k13 k14 k15 v0 v1 ⟨hk, h3, h4⟩
  have f4 := Block_f k0 k1 k2 k3 k4 k5 k6 k7 k8 k9 k10 k11 k12 k13 k14 k15 n0 n1 ⟨hk, h0, h1⟩
  have e := same_ev (xtea_out (xtea_kb [xtea_wd k0 k1 k2 k3, xtea_wd k4 k5 k6 k7, xtea_wd k8 k9 k10 k11, xtea_wd k12 k13 k14 k15] n0 n1 n2) (List.replicate 20 0) (List.replicate 20 (0 : Int)).length) (by rw [xtea_out_length]; decide)
  have hb : (((xtea_blk [xtea_wd k0 k1 k2 k3, xtea_wd k4 k5 k6 k7, xtea_wd k8 k9 k10 k11, xtea_wd k12 k13 k14 k15] v0 v1).1 == (xtea_blk [xtea_wd k0 k1 k2 k3, xtea_wd k4 k5 k6 k7, xtea_wd k8 k9 k10 k11, xtea_wd k12 k13 k14 k15] n0 n1).1 && ((xtea_blk [xtea_wd k0 k1 k2 k3, xtea_wd k4 k5 k6 k7, xtea_wd k8 k9 k10 k11, xtea_wd k12 k13 k14 k15] v0 v1).2 == (xtea_blk [xtea_wd k0 k1 k2 k3, xtea_wd k4 k5 k6 k7, xtea_wd k8 k9 k10 k11, xtea_wd k12 k13 k14 k15] n0 n1).2)) == (v0 == n0 && (v1 == n1))) = true := by
    rw [beq_iff_eq, Bool.eq_iff_iff]
    simp only [Bool.and_eq_true, beq_iff_eq]
    constructor
    · rintro ⟨e1, e2⟩
      exact blk_inj _ h3 h4 h0 h1 (Prod.ext e1 e2)
    · rintro ⟨rfl, rfl⟩
      exact ⟨rfl, rfl⟩
  refine Ev.congr (fun k => ?_) (Ev.bind (f := fun _ t => if t = true then some true else some false) e (by simpa using Ev.now true))
  unfold carapacelaw02_XteaNonce.f
  rw [awake, Option.bind_some, if_pos (by decide), Option.bind_some, f1, Option.bind_some, f2, Option.bind_some]
  congr 1
  funext t
  rw [if_pos rfl, f3, Option.bind_some, f4, Option.bind_some, hb]
theorem walk (w : World) (l0 : List Int) (hl0 : l0.length = 16) (w0 : ∀ x ∈ l0, (Lit.int .u8 x).wf = true) (l1 : List Int) (hl1 : l1.length = 3) (w1 : ∀ x ∈ l1, (Lit.int .u32 x).wf = true) (l2 : List Int) (hl2 : l2.length = 2) (w2 : ∀ x ∈ l2, (Lit.int .u32 x).wf = true) :
    Calls Try.prog 14 #[.agg (l0.map (Value.int .u8)).toArray, .agg (l1.map (Value.int .u32)).toArray, .agg (l2.map (Value.int .u32)).toArray] w fun e w' => e = .returned (.bool true) ∧ Below w.heap.size w w' := by
  match l0, hl0, l1, hl1, l2, hl2 with
  | [k0, k1, k2, k3, k4, k5, k6, k7, k8, k9, k10, k11, k12, k13, k14, k15], _, [n0, n1, n2], _, [v0, v1], _ =>
    obtain ⟨k, h⟩ := (nonce_ev k0 k1 k2 k3 k4 k5 k6 k7 k8 k9 k10 k11 k12 k13 k14 k15 n0 n1 n2 v0 v1 (fun x hx => wf_u8 (w0 x hx)) (wf_u32 (w1 n0 (by simp))) (wf_u32 (w1 n1 (by simp))) (wf_u32 (w1 n2 (by simp))) (wf_u32 (w2 v0 (by simp))) (wf_u32 (w2 v1 (by simp)))).rounds
    exact carapacelaw02_XteaNonce.calls k k0 k1 k2 k3 k4 k5 k6 k7 k8 k9 k10 k11 k12 k13 k14 k15 n0 n1 n2 v0 v1 true ⟨rfl⟩ w h
end Go.Proofs.Ytmibdlapjddfoaa.XteaNonceW
