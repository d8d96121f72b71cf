-- carapaceref05.Put.
import Derived.Test.YteocmeidkdhmiaaRcJa
namespace Go.Proofs.Yteocmeidkdhmiaa.Pv
set_option linter.all false
open Go.RowKit Go.Proofs
set_option maxRecDepth 100000
set_option maxHeartbeats 4000000
theorem ref_freshg : GCall Try.prog 43 [] [] fun x S' => ∃ g, x = .vw 0 g 0 256 ∧ S' = [⟨g, true, 1, ints .i64 P0⟩] := by
  refine gcall_drop ?_
  refine gcall_of_tr Try.func43 rfl [.tmp 0] Try.results43 12 rfl (tk_start ?_)
  (repeat refine ka ?_); refine kr ?_ ?_ (pops_end ?_)
  (repeat refine ka ?_); refine kr ?_ ?_ ?_
  refine ps_lit (fun g => ?_)
  refine pops_go ?_ ?_ (pops_end ?_)
  (repeat refine ka ?_); refine kr ?_ ?_ (pops_end ?_)
  (repeat refine ka ?_); refine kb ?_
  refine kw (fun s : Nat × Nat => [(1, .vw 0 s.2 0 s.1), (2, .v (.int .i64 s.1))]) (fun s => [⟨s.2, true, 1, ints .i64 (List.replicate s.1 1024)⟩]) (fun s => s.1 ≤ 256) (fun s => 256 - s.1) (0, g) (by simp) (holds 1 (by repeat (first | exact .nil | refine has1 ?_))) ?_
  rintro ⟨i, g⟩ hi
  simp only at hi ⊢
  by_cases h : i < 256
  · (repeat refine ka ?_); refine kr ?_ ?_ (pops_end ?_)
    (repeat refine ka ?_); refine kct ?_
    (repeat refine ka ?_); refine ksk ?_
    (repeat refine ka ?_); refine kb ?_
    (repeat refine ka ?_); refine kr ?_ ?_ ?_
    refine ps_lit (fun g1 => ?_)
    refine pops_go ?_ ?_ ?_
    refine ps_app_vw (rows' := ints .i64 (List.replicate (i + 1) 1024)) (fun g2 => ?_) (hlen := by simp [ints_length]) (hrows := by rw [List.replicate_succ']; simp [ints])
    refine pops_go ?_ ?_ (pops_end ?_)
    refine kn ?_; repeat (first | with_reducible refine blk_n ?_ | with_reducible refine beh_n ?_)
    (repeat refine ka ?_); refine kr ?_ ?_ (pops_end ?_)
    refine kn ?_; repeat (first | with_reducible refine blk_n ?_ | with_reducible refine beh_n ?_)
    exact ⟨(i + 1, g2), by simp only; omega, by simp only; omega, (holds 1 (by repeat (first | exact .nil | refine has1 ?_)))⟩
  · obtain rfl : i = 256 := by omega
    (repeat refine ka ?_); refine kr ?_ ?_ (pops_end ?_)
    (repeat refine ka ?_); refine kcf ?_
    (repeat refine ka ?_); refine kx ?_; (repeat (first | with_reducible refine beh_x ?_ | with_reducible refine blk_up rfl ?_)); refine blk_here ?_; refine beh_n ?_
    (repeat refine ka ?_); refine kr ?_ ?_ (pops_end ?_)
    (repeat refine ka ?_); refine kret ?_; repeat (first | with_reducible refine beh_r ?_ | with_reducible refine blk_r ?_)
    refine ends_ret ?_ retPV_one
    exact ⟨1, g, rfl, rfl⟩
/-- Bytes that are not all 255. -/
theorem tail255 : ∀ (l : List Int), Oct l → val l + 1 < 256 ^ l.length → ∃ a x r, l = a ++ x :: List.replicate r 255 ∧ 0 ≤ x ∧ x < 255 := by
  intro l
  induction l with
  | nil => intro _ h; simp [val] at h
  | cons y l ih =>
    intro ho h
    have hy := ho y (by simp)
    have hl : Oct l := fun z hz => ho z (by simp [hz])
    by_cases hall : val l + 1 < 256 ^ l.length
    · obtain ⟨a, x, r, e, h1, h2⟩ := ih hl hall
      exact ⟨y :: a, x, r, by rw [e]; rfl, h1, h2⟩
    · have hv := val_in hl
      have he : l = List.replicate l.length 255 := val_inj hl (fun z hz => by rw [List.eq_of_mem_replicate hz]; decide) (by simp) (by rw [val_rep]; omega)
      refine ⟨[], y, l.length, by rw [← he]; rfl, hy.1, ?_⟩
      simp only [val, List.length_cons, Int.pow_succ] at h
      have hp := p256 l.length
      rcases Int.lt_or_le y 255 with h1 | h1
      · exact h1
      · have := Int.mul_le_mul_of_nonneg_right h1 (Int.le_of_lt hp)
        omega
theorem val_inc (a : List Int) (x : Int) (r : Nat) : val (a ++ (x + 1) :: List.replicate r 0) = val (a ++ x :: List.replicate r 255) + 1 := by
  rw [val_append, val_append, val, val, val_rep, val_rep0]
  simp only [List.length_cons, List.length_replicate]
  rw [Int.add_mul]
  omega
theorem oct_inc {a : List Int} {x : Int} {r : Nat} (h : Oct (a ++ x :: List.replicate r 255)) (h0 : 0 ≤ x) (h1 : x < 255) : Oct (a ++ (x + 1) :: List.replicate r 0) := by
  intro y hy
  rcases List.mem_append.1 hy with hy | hy
  · exact h y (by simp [hy])
  · rcases List.mem_cons.1 hy with rfl | hy
    · omega
    · rw [List.eq_of_mem_replicate hy]; decide
/-- The document's writer. -/
structure XA (out : List Int) (lo : Int) (t : AS) : Prop where
  n : out.length = t.n
  o : Oct out
  l0 : 0 ≤ lo
  l1 : lo < 4294967296
  V : val out * 4294967296 + lo = t.V
def kk (j : Nat) : Int := if j < 8 then 2 ^ (7 - j) else 0
theorem kk_half {j : Nat} (h : j < 8) : kk j / 2 = kk (j + 1) := by
  unfold kk
  rw [if_pos h]
  rcases j with _ | _ | _ | _ | _ | _ | _ | _ | j <;> first | rfl | omega
theorem kk_pos {j : Nat} (h : j < 8) : 1 ≤ kk j ∧ kk j ≤ 128 := by
  unfold kk
  rw [if_pos h]
  rcases j with _ | _ | _ | _ | _ | _ | _ | _ | j <;> first | decide | omega
theorem XA0 : XA [0] 0 A0 := ⟨rfl, by decide, by decide, by decide, by decide⟩
theorem ref_put (b : List Int) (hb : Oct b) (hl : b.length ≤ 1000000) : PCall Try.prog 21 [.ro 1 false (ints .u8 b)] (.ro 1 false (ints .u8 (rput b))) := by
  obtain ⟨s1, s2, s3⟩ := rput_spec b
  refine pcall_mkg Try.func21 rfl [.tmp 2] Try.results21 116 rfl (tk_start ?_)
  (repeat refine ka ?_); refine kr ?_ ?_ (pops_end ?_)
  (repeat refine ka ?_); refine kr ?_ ?_ ?_
  refine ps_lit (fun g0 => ?_)
  refine pops_go ?_ ?_ (pops_end ?_)
  (repeat refine ka ?_); refine kr ?_ ?_ (pops_end ?_)
  (repeat refine ka ?_); refine kr ?_ ?_ (pops_end ?_)
  (repeat refine ka ?_); refine kr ?_ ?_ ?_
  refine ps_fcall [] ref_freshg ?_ (by rintro x S' ⟨g, rfl, rfl⟩; exact Nat.le_of_ble_eq_true rfl)
  rintro x S' ⟨g1, rfl, rfl⟩
  (intro x1 S1 hx1 hS1; simp only [List.map_cons, List.map_nil, renB, ren_ints, putB, List.set_cons_zero, List.set_cons_succ, List.cons_append, List.nil_append, List.append_nil, renL, ren, sg, List.length_cons, List.length_nil, Nat.reduceAdd, Nat.zero_add, Nat.add_zero] at hx1 hS1; subst hx1 hS1)
  refine pops_go ?_ ?_ (pops_end ?_)
  (repeat refine ka ?_); refine kr ?_ ?_ (pops_end ?_)
  (repeat refine ka ?_); refine kb ?_
  refine kw (fun s : Nat × List Int × Int × Nat => [(0, .ro 1 false (ints .u8 b)), (3, .vw 0 s.2.2.2 0 s.2.1.length), (4, .v (.int .u64 s.2.2.1)), (5, .v (.int .u64 (aAll b s.1).wd)), (6, .vw 1 g1 0 256), (7, .v (.int .i64 s.1))])
    (fun s => [⟨s.2.2.2, true, 1, ints .u8 s.2.1⟩, ⟨g1, true, 1, ints .i64 (aAll b s.1).l⟩]) (fun s => s.1 ≤ b.length ∧ XA s.2.1 s.2.2.1 (aAll b s.1)) (fun s => b.length - s.1) (0, [0], 0, g0) ⟨by simp, XA0⟩ (holds 2 (by repeat (first | exact .nil | refine has1 ?_))) ?_
  rintro ⟨i, out, lo, g0⟩ ⟨hi, hx⟩
  simp only at hi hx ⊢
  have hokA := aAll_ok b i
  by_cases h : i < b.length
  · generalize hci : b.getD i 0 = c
    have hc : 0 ≤ c ∧ c < 256 := by rw [← hci]; exact hb.getD i
    have hci' : b.getD ((i : Nat) : Int).toNat 0 = c := by rw [Int.toNat_natCast]; exact hci
    have hn0 : (aAll b i).n ≤ 8 * i + 1 := by
      have := (encAll_aAll b i).n
      obtain ⟨n', q1, q2, q3⟩ := encAll_ok b i
      have := q3.n
      omega
    (repeat refine ka ?_); refine kr ?_ ?_ (pops_end ?_)
    (repeat refine ka ?_); refine kct ?_
    (repeat refine ka ?_); refine ksk ?_
    (repeat refine ka ?_); refine kb ?_
    (repeat refine ka ?_); refine kr ?_ ?_ (pops_end ?_)
    (repeat refine ka ?_); refine kr ?_ ?_ (pops_end ?_)
    (repeat refine ka ?_); refine kb ?_
    refine kw (fun s : Nat × List Int × Int × Nat => [(0, .ro 1 false (ints .u8 b)), (3, .vw 0 s.2.2.2 0 s.2.1.length), (4, .v (.int .u64 s.2.2.1)), (5, .v (.int .u64 (aTo c (aAll b i) s.1).1.wd)), (6, .vw 1 g1 0 256), (7, .v (.int .i64 i)), (8, .v (.int .i64 ((aTo c (aAll b i) s.1).2 : Nat))), (9, .v (.int .i64 (kk s.1)))])
      (fun s => [⟨s.2.2.2, true, 1, ints .u8 s.2.1⟩, ⟨g1, true, 1, ints .i64 (aTo c (aAll b i) s.1).1.l⟩]) (fun s => s.1 ≤ 8 ∧ XA s.2.1 s.2.2.1 (aTo c (aAll b i) s.1).1 ∧ (aTo c (aAll b i) s.1).1.n ≤ 8 * i + 1 + s.1) (fun s => 8 - s.1) (0, out, lo, g0) ⟨by simp, hx, hn0⟩ (holds 2 (by repeat (first | exact .nil | refine has1 ?_))) ?_
    clear hx hn0 out lo g0
    rintro ⟨j, out, lo, g0⟩ ⟨hj, hx, hnj⟩
    simp only at hj hx hnj ⊢
    have hok := aTo_ok c hokA j hj
    by_cases h8 : j < 8
    · have hm := aTo_m8 c (aAll b i) h8
      have hkh := kk_half h8
      have hkp := kk_pos h8
      obtain ⟨hb0, hb1⟩ := bitOf_in c j
      have e1 : aTo c (aAll b i) (j + 1) = ((aTo c (aAll b i) j).1.bit (aTo c (aAll b i) j).2 (bitOf c j), 2 * (aTo c (aAll b i) j).2 + (bitOf c j).toNat) := rfl
      have hbit : b.getD ((i : Nat) : Int).toNat 0 / kk j % 2 = bitOf c j := by rw [hci']; unfold kk; rw [if_pos h8]; rfl
      have hq : 0 ≤ b.getD ((i : Nat) : Int).toNat 0 / kk j ∧ b.getD ((i : Nat) : Int).toNat 0 / kk j ≤ 255 := by
        rw [hci']
        have := Int.ediv_le_self (kk j) hc.1
        exact ⟨Int.ediv_nonneg hc.1 (by omega), by omega⟩
      generalize hqt : aTo c (aAll b i) j = q at *
      obtain ⟨t, m⟩ := q
      dsimp only at *
      obtain ⟨hp0, hp1⟩ := hok.lik.2 m hm
      have hll := hok.lik.1
      have w0 := hok.w0
      have w1 := hok.w1
      obtain ⟨q0, q1, q2⟩ := part_in (by omega) w1 hp0 hp1
      have hT := hok.turn hm (bitOf c j)
      have hget : t.l.getD (0 + ((m : Nat) : Int).toNat) 0 = t.l.getD m 0 := by rw [Int.toNat_natCast, Nat.zero_add]
      have hpw : IntKind.u64.wrap (t.wd / 2048 * t.l.getD (0 + ((m : Nat) : Int).toNat) 0) = part t.l t.wd m := by
        rw [hget]; exact wrap_u64 _ q0 (by unfold part at q1; omega)
      have hpq : part t.l t.wd m ≤ t.wd := by omega
      have hll' : t.l.length = 256 := hll
      have hlen := hx.n
      (repeat refine ka ?_); refine kr ?_ ?_ (pops_end ?_)
      (repeat refine ka ?_); refine kct ?_
      (repeat refine ka ?_); refine ksk ?_
      (repeat refine ka ?_); refine kb ?_
      (repeat refine ka ?_); refine kr ?_ ?_ (pops_end ?_)
      rw [hbit]
      (repeat refine ka ?_); refine kr ?_ ?_ (pops_end ?_)
      (repeat refine ka ?_); refine kr ?_ ?_ ?_
      refine ps_pcall (ref_learn _ _) ?_
      refine pops_go ?_ ?_ ?_
      refine ps_seti ?_
      refine pops_nil ?_
      rw [hget, show t.l.set (0 + ((m : Nat) : Int).toNat) (learn (t.l.getD m 0) (bitOf c j)) = (t.turn m (bitOf c j)).l by rw [Int.toNat_natCast, Nat.zero_add]; rfl]
      (repeat refine ka ?_); refine kr ?_ ?_ (pops_end ?_)
      (repeat refine ka ?_); refine kr ?_ ?_ (pops_end ?_)
      (repeat refine ka ?_)
      have htw : (t.turn m (bitOf c j)).wd = if bitOf c j = 0 then part t.l t.wd m else t.wd - part t.l t.wd m := rfl
      have htV : (t.turn m (bitOf c j)).V = if bitOf c j = 0 then t.V else t.V + part t.l t.wd m := rfl
      have htn : (t.turn m (bitOf c j)).n = t.n := rfl
      have hbe : t.bit m (bitOf c j) = if (t.turn m (bitOf c j)).wd < 16777216 then ⟨(t.turn m (bitOf c j)).l, (t.turn m (bitOf c j)).wd * 256, (t.turn m (bitOf c j)).V * 256, (t.turn m (bitOf c j)).n + 1⟩ else t.turn m (bitOf c j) := rfl
      rw [hbe] at e1
      clear hbe
      have hxV := hx.V
      have hx0 := hx.l0
      have hx1 := hx.l1
      have hxo := hx.o
      generalize bitOf c j = bb at *
      generalize t.turn m bb = u at *
      generalize part t.l t.wd m = p at *
      have htt := w1
      refine kcut (fun lo1 : Int => [(0, .ro 1 false (ints .u8 b)), (3, .vw 0 g0 0 out.length), (4, .v (.int .u64 lo1)), (5, .v (.int .u64 u.wd)), (6, .vw 1 g1 0 256), (7, .v (.int .i64 i)), (8, .v (.int .i64 (2 * (m : Int) + bb))), (9, .v (.int .i64 (kk j)))])
        (fun _ => [⟨g0, true, 1, ints .u8 out⟩, ⟨g1, true, 1, ints .i64 u.l⟩]) (fun lo1 => val out * 4294967296 + lo1 = u.V ∧ 0 ≤ lo1 ∧ lo1 < 8589934592) ?_ ?_ (by simp)
      · by_cases hb0' : bb = 0
        · rw [if_pos hb0'] at htw htV
          (repeat refine ka ?_); refine kct ?_
          (repeat refine ka ?_); refine kr ?_ ?_ (pops_end ?_)
          refine kn ?_; repeat (first | with_reducible refine blk_n ?_ | with_reducible refine beh_n ?_)
          rw [← htw]
          exact ⟨lo, ⟨by omega, by omega, by omega⟩, (holds 2 (by repeat (first | exact .nil | refine has1 ?_)))⟩
        · rw [if_neg hb0'] at htw htV
          (repeat refine ka ?_); refine kcf ?_
          (repeat refine ka ?_); refine kr ?_ ?_ (pops_end ?_)
          (repeat refine ka ?_); refine kr ?_ ?_ (pops_end ?_)
          refine kn ?_; repeat (first | with_reducible refine blk_n ?_ | with_reducible refine beh_n ?_)
          rw [← htw]
          exact ⟨lo + p, ⟨by omega, by omega, by omega⟩, (holds 2 (by repeat (first | exact .nil | refine has1 ?_)))⟩
      rintro lo1 ⟨hV1, hl0, hl1⟩
      clear hxV hx0 hx1 htw htV lo hx
      have ht0 := hT.w0
      have ht1 := hT.w1
      have htv := hT.v1
      have htn1 := hT.n
      have htl := hT.lik.1
      rw [← htn] at hlen hnj
      clear hget hpw q0 q1 q2 hpq hok hp0 hp1 hll hll' w0 w1 hT
      (repeat refine ka ?_); refine kr ?_ ?_ (pops_end ?_)
      (repeat refine ka ?_)
      refine kcut (fun s : List Int × Int => [(0, .ro 1 false (ints .u8 b)), (3, .vw 0 g0 0 s.1.length), (4, .v (.int .u64 s.2)), (5, .v (.int .u64 u.wd)), (6, .vw 1 g1 0 256), (7, .v (.int .i64 i)), (8, .v (.int .i64 (2 * (m : Int) + bb))), (9, .v (.int .i64 (kk j)))])
        (fun s => [⟨g0, true, 1, ints .u8 s.1⟩, ⟨g1, true, 1, ints .i64 u.l⟩]) (fun s => XA s.1 s.2 u) ?_ ?_ (by simp)
      · by_cases hca : 4294967296 ≤ lo1
        · obtain ⟨a, x, r, hout, hx0, hx1⟩ := tail255 out hxo (by
            rw [hlen]
            have e : (256 : Int) ^ u.n = 256 ^ (u.n - 1) * 256 := by rw [← Int.pow_succ]; congr 1; omega
            rw [e]
            have hQ := p256 (u.n - 1)
            generalize (256 : Int) ^ (u.n - 1) = Q at *
            omega)
          have hol : out.length = a.length + 1 + r := by rw [hout]; simp; omega
          have hinc := val_inc a x r
          have hoi := oct_inc (hout ▸ hxo) hx0 hx1
          rw [← hout] at hinc
          have hXA : XA (a ++ (x + 1) :: List.replicate r 0) (lo1 - 4294967296) u := ⟨by rw [← hlen, hol]; simp; omega, hoi, by omega, by omega, by rw [hinc, Int.add_mul]; omega⟩
          have hgk : ∀ k, k ≤ r → (a ++ x :: (List.replicate (r - k) 255 ++ List.replicate k 0)).length = a.length + 1 + r := by intro k hk; simp; omega
          have hg1 : ∀ k, k < r → (a ++ x :: (List.replicate (r - k) 255 ++ List.replicate k 0)).getD (a.length + r - k) 0 = 255 := by
            intro k hk
            rw [List.getD_eq_getElem?_getD, List.getElem?_append_right (by omega), show a.length + r - k - a.length = (r - k - 1) + 1 by omega, List.getElem?_cons_succ, List.getElem?_append_left (by simp; omega), List.getElem?_replicate, if_pos (by omega)]
            rfl
          have hg2 : (a ++ x :: (List.replicate (r - r) 255 ++ List.replicate r 0)).getD (a.length + r - r) 0 = x := by
            rw [List.getD_eq_getElem?_getD, List.getElem?_append_right (by omega), show a.length + r - r - a.length = 0 by omega]
            rfl
          have hs1 : ∀ k, k < r → (a ++ x :: (List.replicate (r - k) 255 ++ List.replicate k 0)).set (a.length + r - k) 0 = a ++ x :: (List.replicate (r - (k + 1)) 255 ++ List.replicate (k + 1) 0) := by
            intro k hk
            rw [List.set_append_right _ _ (by omega), show a.length + r - k - a.length = (r - (k + 1)) + 1 by omega, List.set_cons_succ, show r - k = (r - (k + 1)) + 1 by omega, List.replicate_succ', List.append_assoc, List.set_append_right _ _ (by simp)]
            simp [List.replicate_succ]
          have hs2 : (a ++ x :: (List.replicate (r - r) 255 ++ List.replicate r 0)).set (a.length + r - r) (x + 1) = a ++ (x + 1) :: List.replicate r 0 := by
            rw [List.set_append_right _ _ (by omega), show a.length + r - r - a.length = 0 by omega, List.set_cons_zero, Nat.sub_self]
            rfl
          (repeat refine ka ?_); refine kct ?_
          (repeat refine ka ?_); refine kr ?_ ?_ (pops_end ?_)
          (repeat refine ka ?_); refine kr ?_ ?_ (pops_end ?_)
          (repeat refine ka ?_); refine kb ?_
          refine kw (fun k : Nat => [(0, .ro 1 false (ints .u8 b)), (3, .vw 0 g0 0 out.length), (4, .v (.int .u64 (lo1 - 4294967296))), (5, .v (.int .u64 u.wd)), (6, .vw 1 g1 0 256), (7, .v (.int .i64 i)), (8, .v (.int .i64 (2 * (m : Int) + bb))), (9, .v (.int .i64 (kk j))), (12, .v (.int .i64 ((a.length + r - k : Nat) : Int)))])
            (fun k => [⟨g0, true, 1, ints .u8 (a ++ x :: (List.replicate (r - k) 255 ++ List.replicate k 0))⟩, ⟨g1, true, 1, ints .i64 u.l⟩]) (fun k => k ≤ r) (fun k => r - k) 0 (by omega) (by simp only [Nat.sub_zero, List.replicate_zero, List.append_nil, ← hout]; exact (holds 2 (by repeat (first | exact .nil | refine has1 ?_)))) ?_
          intro k hk
          have hgl := hgk k hk
          by_cases hkr : k < r
          · have hg1 := hg1 k hkr
            have hs1 := hs1 k hkr
            generalize a ++ x :: (List.replicate (r - k) 255 ++ List.replicate k 0) = ok at *
            have hgg : ok.getD (0 + ((a.length + r - k : Nat) : Int).toNat) 0 = 255 := by rw [Int.toNat_natCast, Nat.zero_add]; exact hg1
            (repeat refine ka ?_); refine kr ?_ ?_ (pops_end ?_)
            (repeat refine ka ?_); refine kct ?_
            (repeat refine ka ?_); refine ksk ?_
            (repeat refine ka ?_); refine kb ?_
            (repeat refine ka ?_); refine kr ?_ ?_ ?_
            refine ps_seti ?_
            refine pops_nil ?_
            (repeat refine ka ?_); refine kr ?_ ?_ (pops_end ?_)
            refine kn ?_; repeat (first | with_reducible refine blk_n ?_ | with_reducible refine beh_n ?_)
            rw [show 0 + ((a.length + r - k : Nat) : Int).toNat = a.length + r - k by omega, hs1]
            rw [show (((a.length + r - k : Nat) : Int) - 1) = ((a.length + r - (k + 1) : Nat) : Int) by omega]
            exact ⟨k + 1, by omega, by omega, (holds 2 (by repeat (first | exact .nil | refine has1 ?_)))⟩
          · obtain rfl : k = r := by omega
            generalize a ++ x :: (List.replicate (k - k) 255 ++ List.replicate k 0) = ok at *
            have hgg : ok.getD (0 + ((a.length + k - k : Nat) : Int).toNat) 0 = x := by rw [Int.toNat_natCast, Nat.zero_add]; exact hg2
            (repeat refine ka ?_); refine kr ?_ ?_ (pops_end ?_)
            (repeat refine ka ?_); refine kcf ?_
            (repeat refine ka ?_); refine kx ?_; (repeat (first | with_reducible refine beh_x ?_ | with_reducible refine blk_up rfl ?_)); refine blk_here ?_; refine beh_n ?_
            (repeat refine ka ?_); refine kr ?_ ?_ ?_
            refine ps_seti ?_
            refine pops_nil ?_
            refine kn ?_; repeat (first | with_reducible refine blk_n ?_ | with_reducible refine beh_n ?_)
            rw [hgg, show 0 + ((a.length + k - k : Nat) : Int).toNat = a.length + k - k by omega, hs2]
            rw [show out.length = (a ++ (x + 1) :: List.replicate k 0).length by rw [hol]; simp; omega]
            exact ⟨(a ++ (x + 1) :: List.replicate k 0, lo1 - 4294967296), hXA, (holds 2 (by repeat (first | exact .nil | refine has1 ?_)))⟩
        · (repeat refine ka ?_); refine kcf ?_
          (repeat refine ka ?_); refine ksk ?_
          refine kn ?_; repeat (first | with_reducible refine blk_n ?_ | with_reducible refine beh_n ?_)
          exact ⟨(out, lo1), ⟨hlen, hxo, hl0, by omega, hV1⟩, (holds 2 (by repeat (first | exact .nil | refine has1 ?_)))⟩
      clear hV1 hl0 hl1 hxo hlen htv out
      rintro ⟨out, lo⟩ ⟨hlen, hxo, hx0, hx1, hxV⟩
      simp only at hlen hxo hx0 hx1 hxV ⊢
      have hmm : ((2 * m + bb.toNat : Nat) : Int) = 2 * (m : Int) + bb := by omega
      by_cases hsh : u.wd < 16777216
      · rw [if_pos hsh] at e1
        (repeat refine ka ?_); refine kr ?_ ?_ (pops_end ?_)
        (repeat refine ka ?_); refine kct ?_
        (repeat refine ka ?_); refine kr ?_ ?_ (pops_end ?_)
        (repeat refine ka ?_); refine kr ?_ ?_ ?_
        refine ps_lit (fun g2 => ?_)
        refine pops_go ?_ ?_ ?_
        refine ps_app_vw (rows' := ints .u8 (out ++ [lo / 16777216])) (fun g3 => ?_) (hlen := by rw [ints_length]) (hrows := by simp [ints])
        refine pops_go ?_ ?_ (pops_end ?_)
        (repeat refine ka ?_); refine kr ?_ ?_ (pops_end ?_)
        refine kn ?_; repeat (first | with_reducible refine blk_n ?_ | with_reducible refine beh_n ?_)
        (repeat refine ka ?_); refine kr ?_ ?_ (pops_end ?_)
        refine kn ?_; repeat (first | with_reducible refine blk_n ?_ | with_reducible refine beh_n ?_)
        refine ⟨(j + 1, out ++ [lo / 16777216], lo % 16777216 * 256, g3), ⟨by simp only; omega, ?_, ?_⟩, by simp only; omega, ?_⟩
        · simp only [e1]
          refine ⟨by simp; omega, oct_append hxo (by intro y hy; simp only [List.mem_singleton] at hy; rw [hy]; omega), by omega, by omega, ?_⟩
          rw [val_snoc]
          dsimp only
          omega
        · simp only [e1]
          omega
        · simp only [e1, hmm, ← hkh, List.length_append, List.length_singleton]
          exact (holds 2 (by repeat (first | exact .nil | refine has1 ?_)))
      · rw [if_neg hsh] at e1
        (repeat refine ka ?_); refine kr ?_ ?_ (pops_end ?_)
        (repeat refine ka ?_); refine kcf ?_
        (repeat refine ka ?_); refine ksk ?_
        refine kn ?_; repeat (first | with_reducible refine blk_n ?_ | with_reducible refine beh_n ?_)
        (repeat refine ka ?_); refine kr ?_ ?_ (pops_end ?_)
        refine kn ?_; repeat (first | with_reducible refine blk_n ?_ | with_reducible refine beh_n ?_)
        refine ⟨(j + 1, out, lo, g0), ⟨by simp only; omega, ?_, ?_⟩, by simp only; omega, ?_⟩
        · simp only [e1]
          exact ⟨hlen, hxo, hx0, hx1, hxV⟩
        · simp only [e1]
          omega
        · simp only [e1, hmm, ← hkh]
          exact (holds 2 (by repeat (first | exact .nil | refine has1 ?_)))
    · obtain rfl : j = 8 := by omega
      have e2 : aAll b (i + 1) = (aTo c (aAll b i) 8).1 := by rw [← hci]; rfl
      have hk8 : kk 8 = 0 := rfl
      (repeat refine ka ?_); refine kr ?_ ?_ (pops_end ?_)
      (repeat refine ka ?_); refine kcf ?_
      (repeat refine ka ?_); refine kx ?_; (repeat (first | with_reducible refine beh_x ?_ | with_reducible refine blk_up rfl ?_)); refine blk_here ?_; refine beh_n ?_
      (repeat refine ka ?_); refine kr ?_ ?_ (pops_end ?_)
      refine kn ?_; repeat (first | with_reducible refine blk_n ?_ | with_reducible refine beh_n ?_)
      refine ⟨(i + 1, out, lo, g0), ⟨by simp only; omega, ?_⟩, by simp only; omega, ?_⟩
      · simp only [e2]; exact hx
      · simp only [e2]
        exact (holds 2 (by repeat (first | exact .nil | refine has1 ?_)))
  · obtain rfl : i = b.length := by omega
    obtain ⟨x1, x2, x3, x4, x5⟩ := hx
    have hres : rput b = out ++ [lo / 16777216, lo / 65536 % 256, lo / 256 % 256, lo % 256] := by
      refine val_inj s1 (oct_append x2 ?_) (by rw [s2, List.length_append, x1]; rfl) ?_
      · intro y hy
        simp only [List.mem_cons, List.not_mem_nil, or_false] at hy
        rcases hy with rfl | rfl | rfl | rfl <;> omega
      · rw [s3, ← x5, val_append]
        simp only [val, List.length_cons, List.length_nil, Int.pow_succ, Int.pow_zero, Nat.zero_add]
        omega
    have hn0 : out.length ≤ 8 * b.length + 1 := by
      have := (encAll_aAll b b.length).n
      obtain ⟨n', q1, q2, q3⟩ := encAll_ok b b.length
      have := q3.n
      omega
    rw [hres]
    (repeat refine ka ?_); refine kr ?_ ?_ (pops_end ?_)
    (repeat refine ka ?_); refine kcf ?_
    (repeat refine ka ?_); refine kx ?_; (repeat (first | with_reducible refine beh_x ?_ | with_reducible refine blk_up rfl ?_)); refine blk_here ?_; refine beh_n ?_
    (repeat refine ka ?_); refine kr ?_ ?_ ?_
    refine ps_lit (fun g2 => ?_)
    refine pops_go ?_ ?_ ?_
    refine ps_app_vw (rows' := ints .u8 (out ++ [lo / 16777216, lo / 65536 % 256, lo / 256 % 256, lo % 256])) (fun g3 => ?_) (hlen := by rw [ints_length]) (hrows := by simp [ints])
    refine pops_go ?_ ?_ (pops_end ?_)
    (repeat refine ka ?_); refine kret ?_; repeat (first | with_reducible refine beh_r ?_ | with_reducible refine blk_r ?_)
    refine ends_ret ?_ retPV_one
    exact gives_ints rfl rfl (by simp)
end Go.Proofs.Yteocmeidkdhmiaa.Pv
