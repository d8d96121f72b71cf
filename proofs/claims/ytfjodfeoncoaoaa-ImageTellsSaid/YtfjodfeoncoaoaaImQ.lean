-- image.parse.
import Derived.Test.YtfjodfeoncoaoaaImO
import Derived.Test.YtfjodfeoncoaoaaImE
import Derived.Test.YtfjodfeoncoaoaaImG
namespace Go.Proofs.Ytfjodfeoncoaoaa.Pv
set_option linter.all false
open Go.RowKit Go.Proofs
set_option maxRecDepth 100000
set_option maxHeartbeats 4000000
inductive GL (S : List Blk) : List PV → List PV → Prop
  | nil : GL S [] []
  | cons {x y : PV} {xs ys : List PV} (h : Gives S x y) (k : GL S xs ys) : GL S (x :: xs) (y :: ys)
theorem GL.get {S : List Blk} {xs ys : List PV} (h : GL S xs ys) : xs.length = ys.length ∧ ∀ (i : Nat) (x y : PV), xs[i]? = some x → ys[i]? = some y → Gives S x y := by
  induction h with
  | nil => exact ⟨rfl, fun i x y h => by simp at h⟩
  | cons h k ih =>
    refine ⟨by simp [ih.1], fun i x y h1 h2 => ?_⟩
    cases i with
    | zero => simp at h1 h2; subst h1; subst h2; exact h
    | succ i => exact ih.2 i x y (by simpa using h1) (by simpa using h2)
theorem gives_l {S : List Blk} {xs ys : List PV} (h : GL S xs ys) : Gives S (.agg xs) (.agg ys) := .agg h.get.1 h.get.2
def zrow : List PV := [.v (.bool false), .v (.int .i64 0), .v (.bool false), .v (.bool false), .v (.bool false), .v (.int .i64 0), .v (.int .i64 0), .v (.int .i64 0), .v (.int .u32 0), .v (.int .u32 0), .v (.int .u32 0), .v (.slice none 0 0), .v (.slice none 0 0), .v (.slice none 0 0)]
theorem gives_zimg (S : List Blk) : Gives S (.agg zrow) (.agg Img.zero.cells) :=
  gives_l (.cons (.same (.v _)) (.cons (.same (.v _)) (.cons (.same (.v _)) (.cons (.same (.v _)) (.cons (.same (.v _)) (.cons (.same (.v _)) (.cons (.same (.v _)) (.cons (.same (.v _)) (.cons (.same (.v _)) (.cons (.same (.v _)) (.cons (.same (.v _)) (.cons .nil (.cons .nil (.cons .nil .nil))))))))))))))
def zwh : List PV := [.v (.int .i64 0), .v (.int .i64 0), .v (.int .i64 0), .v (.int .i64 0), .v (.int .i64 0)]
theorem zwh_pure : PV.Pure (.agg zwh) := .agg (by unfold zwh; exact PureL.h)
theorem gives_zero (S : List Blk) (a e : Int) : Gives S (.tup [.agg zrow, .agg zwh, trP a e]) (.tup [.agg Img.zero.cells, .agg Wh.zero.cells, trP a e]) :=
  gives_three (gives_zimg S) (.same zwh_pure) (.same (trPure a e).h)
def parseP (b : List Int) (f t : Int) : PV := if formed b f t && (imgAt b f t).right then .tup [.agg (imgAt b f t).cells, .agg (whAt b f t).cells, .v .nilIface] else .tup [.agg Img.zero.cells, .agg Wh.zero.cells, trP f 2]
theorem Img.cells_pure (x : Img) : PV.Pure (.agg x.cells) := .agg (by
  unfold Img.cells
  exact PureL.h)
instance (x : Img) : PureC (.agg x.cells) := ⟨x.cells_pure⟩
instance (w : Wh) : PureC (.agg w.cells) := ⟨.agg (by unfold Wh.cells; exact PureL.h)⟩
instance (b : List Int) (f t : Int) : PureC (parseP b f t) := ⟨by
  unfold parseP
  split
  · exact PureC.h
  · exact PureC.h⟩
/-- A region whose readings are walked once. -/
theorem kds_once {P : Program} {id : Nat} {ops : Array Oper} {l : List Code} {n : Nat} {tm tmF : List (Nat × PV)} {S : List Blk} {Q : Exit → PS → Prop} (A T : List Nat) (hev : ∀ X, PStL P ops.toList (fun σF => σF = ⟨n, tmF, S ++ X⟩) (pick ops A) ⟨n, tm, S ++ X⟩)
    (k : (∀ X, PStL P ops.toList (fun σF => σF = ⟨n, tmF, S ++ X⟩) (pick ops A) ⟨n, tm, S ++ X⟩) → HsT P ops (fun σ' => Tk P l σ' Q) T A tmF ⟨n, tm, S⟩) [hm : Mixed P] (hd : ops.toList.all (fun o => dstOk n o) = true := by kernel_rfl) (hok : drawOk ops = true := by kernel_rfl)
    (hc : kdsB ops A T (tm.map (·.1)) = true := by kernel_rfl) : Tk P (.region id ops true :: l) ⟨n, tm, S⟩ Q :=
  kds A T (pstl_mono (Q := fun σF => σF = ⟨n, tmF, S⟩) (fun σ h => by subst h; exact k hev) _ _ (by have := hev []; rwa [List.append_nil] at this)) hd hok hc
theorem hev_use {P : Program} {ops : List Oper} {Q' : PS → Prop} {L : List Oper} {n : Nat} {tm tmF : List (Nat × PV)} {S : List Blk} (hev : ∀ X, PStL P ops (fun σF => σF = ⟨n, tmF, S ++ X⟩) L ⟨n, tm, S ++ X⟩) (X : List Blk) (h : Q' ⟨n, tmF, S ++ X⟩) : PStL P ops Q' L ⟨n, tm, S ++ X⟩ :=
  pstl_mono (Q := fun σF => σF = ⟨n, tmF, S ++ X⟩) (fun σ e => by subst e; exact h) _ _ (hev X)
theorem hs_wA {P : Program} {ops : Array Oper} {Q : PS → Prop} {w : Nat} {T A : List Nat} {tmF : List (Nat × PV)} {σ : PS} {o : Oper} (h2 : PStL P ops.toList (fun σN => lxOf ops A σN.tm = lxOf ops A tmF ∧ Pops P ops.toList (fun σ' => HsT P ops Q T [] tmF σ') [o] σN) (pick ops A) σ)
    (ho : ops[w]? = some o := by rfl) (hg : o.guard = none := by rfl) (hc : stB ops w A A [] = true := by kernel_rfl) : HsT P ops Q (w :: T) A tmF σ :=
  hs_w A [] h2 (pstl_mono (fun σ h => h.1) _ _ h2) ho hg hc
theorem set_nine (f : Nat → Int) (i : Nat) (hi : i < 9) : (((List.range 9).map f).take i ++ List.replicate (9 - i) 0).set i (f i) = ((List.range 9).map f).take (i + 1) ++ List.replicate (9 - (i + 1)) 0 := by
  have hc : i = 0 ∨ i = 1 ∨ i = 2 ∨ i = 3 ∨ i = 4 ∨ i = 5 ∨ i = 6 ∨ i = 7 ∨ i = 8 := by omega
  rcases hc with rfl | rfl | rfl | rfl | rfl | rfl | rfl | rfl | rfl <;> rfl
theorem parseP_err {b : List Int} {f t : Int} (h : ¬ (formed b f t = true ∧ (imgAt b f t).right = true)) : parseP b f t = .tup [.agg Img.zero.cells, .agg Wh.zero.cells, trP f 2] := by
  unfold parseP
  rw [if_neg (by simpa using h)]
theorem parseP_ok {b : List Int} {f t : Int} (h : formed b f t = true) (hr : (imgAt b f t).right = true) : parseP b f t = .tup [.agg (imgAt b f t).cells, .agg (whAt b f t).cells, .v .nilIface] := by
  unfold parseP
  rw [if_pos (by simp [h, hr])]
theorem take4 {H : List Int} (h : 4 ≤ H.length) : H.take 4 = [H.getD 0 0, H.getD 1 0, H.getD 2 0, H.getD 3 0] := by
  match H, h with
  | a :: b :: c :: d :: H, _ => rfl
theorem parse_ok (b : List Int) (hb : Oct b) (hl : b.length ≤ 1000000000) (f t : Int) (h0 : 0 ≤ f) (h1 : f + 44 ≤ t) (h2 : t ≤ b.length) : PCall Try.prog 36 [.ro 1 false (ints .u8 b), .v (.int .i64 f), .v (.int .i64 t)] (parseP b f t) := by
  obtain ⟨H, hH⟩ : ∃ H, H = (b.drop f.toNat).take (t.toNat - f.toNat) := ⟨_, rfl⟩
  have hHl : (H.length : Int) = t - f := by rw [hH, List.length_take, List.length_drop]; omega
  have hHo : Oct H := fun x hx => hb x (by rw [hH] at hx; exact List.mem_of_mem_drop (List.mem_of_mem_take hx))
  have hHg : ∀ i, i < H.length → H.getD i 0 = b.getD (f.toNat + i) 0 := by
    intro i hi
    rw [hH]
    simp only [List.getD_eq_getElem?_getD, List.getElem?_take, List.getElem?_drop]
    rw [if_pos (by omega)]
  have hHn : ∀ i, i + 3 < H.length → num4 H i = num4 b (f.toNat + i) := by
    intro i hi
    unfold num4
    rw [hHg i (by omega), hHg (i + 1) (by omega), hHg (i + 2) (by omega), hHg (i + 3) (by omega)]
    simp only [Nat.add_assoc]
  obtain ⟨V, hV⟩ : ∃ V : Nat → Int, V = fun k => num4 H (8 + 4 * k) := ⟨_, rfl⟩
  have hVr : ∀ k, 0 ≤ V k ∧ V k < 4294967296 := fun k => by rw [hV]; exact num4_range hHo _
  refine pcall_mkg Try.func36 rfl [.cell 6 29, .cell 7 39, .tmp 8] Try.results36 151 rfl (tk_start ?_)
  (repeat refine ka ?_); refine kr ?_ ?_ ?_
  refine ps_alloc fun g6 => ?_
  refine pops_go ?_ ?_ ?_
  refine ps_alloc fun g7 => ?_
  refine pops_go ?_ ?_ (pops_end ?_)
  (repeat refine ka ?_); refine kr ?_ ?_ (pops_end ?_)
  rw [← hH]
  (repeat refine ka ?_); refine kr ?_ ?_ (pops_end ?_)
  (repeat refine ka ?_); refine kr ?_ ?_ ?_
  refine ps_alloc fun g11 => ?_
  refine pops_go ?_ ?_ (pops_end ?_)
  (repeat refine ka ?_); refine kr ?_ ?_ (pops_end ?_)
  (repeat refine ka ?_); refine kb ?_
  have hz : ([PV.v (.int .i64 0), .v (.int .i64 0), .v (.int .i64 0), .v (.int .i64 0), .v (.int .i64 0), .v (.int .i64 0), .v (.int .i64 0), .v (.int .i64 0), .v (.int .i64 0)] : List PV) = ci .i64 (((List.range 9).map V).take 0 ++ List.replicate (9 - 0) 0) ++ [] := rfl
  rw [hz]
  refine kw (fun i : Nat => [(0, PV.ro 1 false (ints .u8 b)), (1, .v (.int .i64 f)), (2, .v (.int .i64 t)), (6, .ptr 0 g6 0 0), (7, .ptr 1 g7 0 0), (8, .v .nilIface), (9, .ro 1 false (ints .u8 H)), (10, .ro 1 false (ints .u8 (H.drop (Int.toNat 4)))), (11, .ptr 2 g11 0 0), (24, .v (.int .i64 i))])
    (fun i => [⟨g6, true, 14, [zrow]⟩, ⟨g7, true, 5, [zwh]⟩, ⟨g11, true, 9, [ci .i64 (((List.range 9).map V).take i ++ List.replicate (9 - i) 0) ++ []]⟩]) (fun i => i ≤ 9) (fun i => 9 - i) 0 (by omega) (holds 3 (by repeat (first | exact .nil | refine has1 ?_))) ?_
  intro i hi
  by_cases g : (i : Int) < 9
  · have hn := inum_ok H hHo (by omega) (8 + 4 * (i : Int)) (by omega) (by omega)
    rw [show num4 H (8 + 4 * (i : Int)).toNat = V i by rw [hV, show (8 + 4 * (i : Int)).toNat = 8 + 4 * i by omega]] at hn
    have hs := set_nine V i (by omega)
    have hlen : (((List.range 9).map V).take i ++ List.replicate (9 - i) 0).length = 9 := by simp; omega
    (repeat refine ka ?_); refine kr ?_ ?_ (pops_end ?_)
    (repeat refine ka ?_); refine kct ?_
    (repeat refine ka ?_); refine ksk ?_
    (repeat refine ka ?_); refine kb ?_
    (repeat refine ka ?_); refine kr ?_ ?_ (pops_end ?_)
    (repeat refine ka ?_); refine kr ?_ ?_ ?_
    refine ps_pcall hn ?_
    refine pops_go ?_ ?_ ?_
    refine ps_st_ca i ?_
    refine pops_go ?_ ?_ (pops_end ?_)
    rw [hs]
    refine kn ?_; repeat (first | with_reducible refine blk_n ?_ | with_reducible refine beh_n ?_)
    (repeat refine ka ?_); refine kr ?_ ?_ (pops_end ?_)
    refine kn ?_; repeat (first | with_reducible refine blk_n ?_ | with_reducible refine beh_n ?_)
    exact ⟨i + 1, by omega, by omega, (holds 3 (by repeat (first | exact .nil | refine has1 ?_)))⟩
  obtain rfl : i = 9 := by omega
  rw [show ci .i64 (((List.range 9).map V).take 9 ++ List.replicate (9 - 9) 0) ++ [] = [PV.v (.int .i64 (V 0)), .v (.int .i64 (V 1)), .v (.int .i64 (V 2)), .v (.int .i64 (V 3)), .v (.int .i64 (V 4)), .v (.int .i64 (V 5)), .v (.int .i64 (V 6)), .v (.int .i64 (V 7)), .v (.int .i64 (V 8))] from rfl]
  (repeat refine ka ?_); refine kr ?_ ?_ (pops_end ?_)
  (repeat refine ka ?_); refine kcf ?_
  (repeat refine ka ?_); refine kx ?_; (repeat (first | with_reducible refine beh_x ?_ | with_reducible refine blk_up rfl ?_)); refine blk_here ?_; refine beh_n ?_
  have hv0 := hVr 0
  have hv1 := hVr 1
  have hv2 := hVr 2
  have hv3 := hVr 3
  have hv4 := hVr 4
  have hv5 := hVr 5
  have hv6 := hVr 6
  have hv7 := hVr 7
  have hv8 := hVr 8
  (repeat refine ka ?_); refine kd ?_ ?_ (pstl_end ?_)
  have hpf := prefix_ok H [83, 70, 88, 49] hHo (by decide) (by omega) (by decide)
  have hFo : Oct (H.drop (Int.toNat 4)) := fun x hx => hHo x (List.mem_of_mem_drop hx)
  have hF0 := getD_oct hFo (Int.toNat 0)
  have hF1 := getD_oct hFo (Int.toNat 1)
  have hF2 := getD_oct hFo (Int.toNat 2)
  have hF3 := getD_oct hFo (Int.toNat 3)
  have hFl : (H.drop (Int.toNat 4)).length = H.length - 4 := by rw [List.length_drop]; rfl
  have hFg : ∀ k, (H.drop (Int.toNat 4)).getD k 0 = H.getD (4 + k) 0 := by
    intro k
    simp only [List.getD_eq_getElem?_getD, List.getElem?_drop]
    rfl
  have hfm : formed b f t = true ↔ (H.take ([83, 70, 88, 49] : List Int).length = [83, 70, 88, 49] ∧ (H.drop (Int.toNat 4)).getD (Int.toNat 0) 0 / 16 = 0 ∧ (H.drop (Int.toNat 4)).getD (Int.toNat 2) 0 = 0 ∧ (H.drop (Int.toNat 4)).getD (Int.toNat 3) 0 = 0 ∧ 44 + V 7 + V 1 + V 8 = (H.length : Int)) := by
    have e4 : H.take ([83, 70, 88, 49] : List Int).length = [H.getD 0 0, H.getD 1 0, H.getD 2 0, H.getD 3 0] := take4 (by omega)
    rw [e4]
    unfold formed
    rw [decide_eq_true_eq, ← hHn 36 (by omega), ← hHn 12 (by omega), ← hHn 40 (by omega), ← hHg 1 (by omega), ← hHg 2 (by omega), ← hHg 3 (by omega), ← hHg 4 (by omega), ← hHg 6 (by omega), ← hHg 7 (by omega)]
    have h00 := hHg 0 (by omega)
    rw [Nat.add_zero] at h00
    rw [← h00]
    have e7 : V 7 = num4 H 36 := by rw [hV]
    have e1 : V 1 = num4 H 12 := by rw [hV]
    have e8 : V 8 = num4 H 40 := by rw [hV]
    rw [e7, e1, e8]
    have f0 : (H.drop (Int.toNat 4)).getD (Int.toNat 0) 0 = H.getD 4 0 := hFg 0
    have f2 : (H.drop (Int.toNat 4)).getD (Int.toNat 2) 0 = H.getD 6 0 := hFg 2
    have f3 : (H.drop (Int.toNat 4)).getD (Int.toNat 3) 0 = H.getD 7 0 := hFg 3
    rw [f0] at hF0
    rw [f0, f2, f3, hHl]
    simp only [List.cons.injEq, and_true]
    constructor
    · rintro ⟨q1, q2, q3, q4, q5, q6, q7, q8⟩
      exact ⟨⟨q1, q2, q3, q4⟩, by omega, q6, q7, q8⟩
    · rintro ⟨⟨q1, q2, q3, q4⟩, q5, q6, q7, q8⟩
      exact ⟨q1, q2, q3, q4, by omega, q6, q7, q8⟩
  by_cases c1 : H.take ([83, 70, 88, 49] : List Int).length = [83, 70, 88, 49]
  rotate_left
  · rw [parseP_err (fun h => c1 (hfm.1 h.1).1)]
    rw [decide_eq_false c1] at hpf
    (repeat refine ka ?_); refine kr ?_ ?_ ?_
    refine ps_lit (fun g3 => ?_)
    refine pops_go ?_ ?_ ?_
    refine ps_cvs ?_
    refine ps_rcall [3] hpf (.cons (.same (ints_pure _ _ _ _)) (.cons (lend_ints (List.mem_singleton.2 rfl) rfl rfl rfl) .nil)) ?_ (.inl (.v _))
    refine pops_go ?_ ?_ (pops_end ?_)
    (repeat refine ka ?_); refine kct ?_
    (repeat refine ka ?_); refine kr ?_ ?_ ?_
    refine ps_mki ?_
    refine ps_st_row ?_
    refine ps_st_row ?_
    refine pops_go ?_ ?_ (pops_end ?_)
    (repeat refine ka ?_); refine kret ?_; repeat (first | with_reducible refine beh_r ?_ | with_reducible refine blk_r ?_)
    refine ends_ret ?_ (retPV_3 res_row res_row res_tmp)
    exact gives_zero _ _ _
  rw [decide_eq_true c1] at hpf
  by_cases c2 : (H.drop (Int.toNat 4)).getD (Int.toNat 0) 0 / 16 = 0
  rotate_left
  · rw [parseP_err (fun h => c2 (hfm.1 h.1).2.1)]
    (repeat refine ka ?_); refine kr ?_ ?_ ?_
    refine ps_lit (fun g3 => ?_)
    refine pops_go ?_ ?_ ?_
    refine ps_cvs ?_
    refine ps_rcall [3] hpf (.cons (.same (ints_pure _ _ _ _)) (.cons (lend_ints (List.mem_singleton.2 rfl) rfl rfl rfl) .nil)) ?_ (.inl (.v _))
    refine pops_go ?_ ?_ (pops_end ?_)
    (repeat refine ka ?_); refine kct ?_
    (repeat refine ka ?_); refine kr ?_ ?_ ?_
    refine ps_mki ?_
    refine ps_st_row ?_
    refine ps_st_row ?_
    refine pops_go ?_ ?_ (pops_end ?_)
    (repeat refine ka ?_); refine kret ?_; repeat (first | with_reducible refine beh_r ?_ | with_reducible refine blk_r ?_)
    refine ends_ret ?_ (retPV_3 res_row res_row res_tmp)
    exact gives_zero _ _ _
  by_cases c3 : (H.drop (Int.toNat 4)).getD (Int.toNat 2) 0 = 0
  rotate_left
  · rw [parseP_err (fun h => c3 (hfm.1 h.1).2.2.1)]
    (repeat refine ka ?_); refine kr ?_ ?_ ?_
    refine ps_lit (fun g3 => ?_)
    refine pops_go ?_ ?_ ?_
    refine ps_cvs ?_
    refine ps_rcall [3] hpf (.cons (.same (ints_pure _ _ _ _)) (.cons (lend_ints (List.mem_singleton.2 rfl) rfl rfl rfl) .nil)) ?_ (.inl (.v _))
    refine pops_go ?_ ?_ (pops_end ?_)
    (repeat refine ka ?_); refine kct ?_
    (repeat refine ka ?_); refine kr ?_ ?_ ?_
    refine ps_mki ?_
    refine ps_st_row ?_
    refine ps_st_row ?_
    refine pops_go ?_ ?_ (pops_end ?_)
    (repeat refine ka ?_); refine kret ?_; repeat (first | with_reducible refine beh_r ?_ | with_reducible refine blk_r ?_)
    refine ends_ret ?_ (retPV_3 res_row res_row res_tmp)
    exact gives_zero _ _ _
  by_cases c4 : (H.drop (Int.toNat 4)).getD (Int.toNat 3) 0 = 0
  rotate_left
  · rw [parseP_err (fun h => c4 (hfm.1 h.1).2.2.2.1)]
    (repeat refine ka ?_); refine kr ?_ ?_ ?_
    refine ps_lit (fun g3 => ?_)
    refine pops_go ?_ ?_ ?_
    refine ps_cvs ?_
    refine ps_rcall [3] hpf (.cons (.same (ints_pure _ _ _ _)) (.cons (lend_ints (List.mem_singleton.2 rfl) rfl rfl rfl) .nil)) ?_ (.inl (.v _))
    refine pops_go ?_ ?_ (pops_end ?_)
    (repeat refine ka ?_); refine kct ?_
    (repeat refine ka ?_); refine kr ?_ ?_ ?_
    refine ps_mki ?_
    refine ps_st_row ?_
    refine ps_st_row ?_
    refine pops_go ?_ ?_ (pops_end ?_)
    (repeat refine ka ?_); refine kret ?_; repeat (first | with_reducible refine beh_r ?_ | with_reducible refine blk_r ?_)
    refine ends_ret ?_ (retPV_3 res_row res_row res_tmp)
    exact gives_zero _ _ _
  by_cases c5 : 44 + V 7 + V 1 + V 8 = (H.length : Int)
  rotate_left
  · rw [parseP_err (fun h => c5 (hfm.1 h.1).2.2.2.2)]
    (repeat refine ka ?_); refine kr ?_ ?_ ?_
    refine ps_lit (fun g3 => ?_)
    refine pops_go ?_ ?_ ?_
    refine ps_cvs ?_
    refine ps_rcall [3] hpf (.cons (.same (ints_pure _ _ _ _)) (.cons (lend_ints (List.mem_singleton.2 rfl) rfl rfl rfl) .nil)) ?_ (.inl (.v _))
    refine pops_go ?_ ?_ (pops_end ?_)
    (repeat refine ka ?_); refine kct ?_
    (repeat refine ka ?_); refine kr ?_ ?_ ?_
    refine ps_mki ?_
    refine ps_st_row ?_
    refine ps_st_row ?_
    refine pops_go ?_ ?_ (pops_end ?_)
    (repeat refine ka ?_); refine kret ?_; repeat (first | with_reducible refine beh_r ?_ | with_reducible refine blk_r ?_)
    refine ends_ret ?_ (retPV_3 res_row res_row res_tmp)
    exact gives_zero _ _ _
  (repeat refine ka ?_); refine kr ?_ ?_ ?_
  refine ps_lit (fun g3 => ?_)
  refine pops_go ?_ ?_ ?_
  refine ps_cvs ?_
  refine ps_rcall [3] hpf (.cons (.same (ints_pure _ _ _ _)) (.cons (lend_ints (List.mem_singleton.2 rfl) rfl rfl rfl) .nil)) ?_ (.inl (.v _))
  refine pops_go ?_ ?_ (pops_end ?_)
  (repeat refine ka ?_); refine kcf ?_
  (repeat refine ka ?_); refine ksk ?_
  have hform := hfm.2 ⟨c1, c2, c3, c4, c5⟩
  clear hfm hpf
  have hf0 : b.getD (f.toNat + 4) 0 = (H.drop (Int.toNat 4)).getD (Int.toNat 0) 0 := by rw [← hHg 4 (by omega)]; exact (hFg 0).symm
  have hf1 : b.getD (f.toNat + 5) 0 = (H.drop (Int.toNat 4)).getD (Int.toNat 1) 0 := by rw [← hHg 5 (by omega)]; exact (hFg 1).symm
  have hn : ∀ k, k < 9 → num4 b (f.toNat + (8 + 4 * k)) = V k := fun k hk => by rw [hV]; exact (hHn (8 + 4 * k) (by omega)).symm
  have hw : whAt b f t = ⟨f, f + 44, f + 44 + V 7, f + 44 + V 7 + V 1, t⟩ := by
    unfold whAt
    rw [hn 7 (by decide), hn 1 (by decide)]
  obtain ⟨F0, hF0e⟩ : ∃ F0, F0 = (H.drop (Int.toNat 4)).getD (Int.toNat 0) 0 := ⟨_, rfl⟩
  obtain ⟨F1, hF1e⟩ : ∃ F1, F1 = (H.drop (Int.toNat 4)).getD (Int.toNat 1) 0 := ⟨_, rfl⟩
  obtain ⟨A1, hA1⟩ : ∃ A1, A1 = f + 44 := ⟨_, rfl⟩
  obtain ⟨A2, hA2⟩ : ∃ A2, A2 = A1 + V 7 := ⟨_, rfl⟩
  obtain ⟨A3, hA3⟩ : ∃ A3, A3 = A2 + V 1 := ⟨_, rfl⟩
  obtain ⟨S1, hS1⟩ : ∃ S1, S1 = (b.drop A1.toNat).take (A2.toNat - A1.toNat) := ⟨_, rfl⟩
  obtain ⟨S2, hS2⟩ : ∃ S2, S2 = (b.drop A2.toNat).take (A3.toNat - A2.toNat) := ⟨_, rfl⟩
  obtain ⟨S3, hS3⟩ : ∃ S3, S3 = (b.drop A3.toNat).take (t.toNat - A3.toNat) := ⟨_, rfl⟩
  have hx : imgAt b f t = ⟨openF F0 F1, V 0, V 2, V 3, V 4, V 5, V 6, S1, S2, S3⟩ := by
    unfold imgAt seg
    simp only
    rw [hn 7 (by decide), hn 1 (by decide), hn 0 (by decide), hn 2 (by decide), hn 3 (by decide), hn 4 (by decide), hn 5 (by decide), hn 6 (by decide), hf0, hf1, ← hF0e, ← hF1e, hS1, hS2, hS3, ← hA1, ← hA2, ← hA3,
      show (A2 - A1).toNat = A2.toNat - A1.toNat by omega, show (A3 - A2).toNat = A3.toNat - A2.toNat by omega, show (t - A3).toNat = t.toNat - A3.toNat by omega]
  have l1 : S1.length ≤ 1000000000 := by rw [hS1, List.length_take, List.length_drop]; omega
  have l2 : S2.length ≤ 1000000000 := by rw [hS2, List.length_take, List.length_drop]; omega
  have l3 : S3.length ≤ 1000000000 := by rw [hS3, List.length_take, List.length_drop]; omega
  have hc1 : PCall Try.prog 47 [.ro 1 false (ints .u8 ((b.drop A1.toNat).take (A2.toNat - A1.toNat)))] (.ro 1 false (ints .u8 S1)) := by rw [← hS1]; exact clone_ok S1 (by omega)
  have hc2 : PCall Try.prog 47 [.ro 1 false (ints .u8 ((b.drop A2.toNat).take (A3.toNat - A2.toNat)))] (.ro 1 false (ints .u8 S2)) := by rw [← hS2]; exact clone_ok S2 (by omega)
  have hc3 : PCall Try.prog 47 [.ro 1 false (ints .u8 ((b.drop A3.toNat).take (t.toNat - A3.toNat)))] (.ro 1 false (ints .u8 S3)) := by rw [← hS3]; exact clone_ok S3 (by omega)
  have hop : PCall Try.prog 60 [.v (.int .u8 ((H.drop (Int.toNat 4)).getD (Int.toNat 0) 0)), .v (.int .u8 ((H.drop (Int.toNat 4)).getD (Int.toNat 1) 0))] (.agg (openF F0 F1).cells) := by rw [hF0e, hF1e]; exact opened_ok _ _ hF0.1 hF0.2 hF1
  have hrt := iright_ok (imgAt b f t) (by rw [hx]; exact l1) (by rw [hx]; exact l2)
  have hpo := fun hr => parseP_ok (b := b) (f := f) (t := t) hform hr
  have hpe := fun hr => parseP_err (b := b) (f := f) (t := t) (fun h => absurd h.2 hr)
  rw [hx] at hrt hpo hpe
  rw [hw, ← hA1, ← hA2, ← hA3] at hpo
  generalize Img.right ⟨openF F0 F1, V 0, V 2, V 3, V 4, V 5, V 6, S1, S2, S3⟩ = R at hrt hpo hpe
  unfold Img.cells openF at hrt hpo
  unfold Op5.cells openF at hop
  unfold Wh.cells at hpo
  simp only at hrt hop hpo
  have q0 : 0 ≤ A1 := by omega
  have q1 : A1 ≤ A2 := by omega
  have q2 : A2 ≤ A3 := by omega
  have q3 : A3 ≤ t := by omega
  have q4 : (H.drop (Int.toNat 4)).length = H.length - 4 ∧ 44 ≤ H.length := ⟨hFl, by omega⟩
  clear hx hw hn hf0 hf1 hform hHn hHg hFg hz hS1 hS2 hS3
  (repeat refine ka ?_); refine kr ?_ ?_ ?_
  refine ps_alloc fun g16 => ?_
  refine pops_go ?_ ?_ ?_
  refine ps_st_row ?_
  refine pops_nil ?_
  rw [← hA1, ← hA2, ← hA3]
  clear hA1 hA2 hA3 hHl hFl c1 c2 c3 c4 c5 l1 l2 l3 hVr hV hF2 hF3 hv1 hv7 hv8 hi g hHo hFo hF0e hF1e hF0 hF1
  (repeat refine ka ?_)
  apply kds_once [0, 1, 2, 3, 4, 5, 6, 7, 8, 9, 10, 11, 12, 13, 14, 15, 16, 17, 18, 19, 20, 21, 22, 23, 24, 25, 26, 27, 28, 29, 30, 31, 32, 33, 34, 35, 36, 37, 38, 39, 40, 41, 42, 43, 44] [45, 46]
  · intro X
    simp only [List.cons_append, List.nil_append]
    refine pstl_go ?_ ?_ ?_; refine pd_pcall hop ?_; refine pstl_go ?_ ?_ ?_; refine pd_pcall hc1 ?_; refine pstl_go ?_ ?_ ?_; refine pd_pcall hc2 ?_; refine pstl_go ?_ ?_ ?_; refine pd_pcall hc3 ?_; refine pstl_go ?_ ?_ (pstl_end ?_)
    rfl
  intro hev
  refine hs_w [] [0, 1, 2, 3, 4, 5, 6, 7, 8, 9, 10, 11, 12, 13, 14, 15, 16, 17, 18, 19, 20, 21, 22, 23, 24, 25, 26, 27, 28, 29, 30, 31, 32, 33, 34, 35, 36, 37, 38, 39, 40, 41, 42, 43, 44] ?_ (by refine hev_use hev [] ?_; rfl); refine pstl_nil ?_; refine ⟨rfl, ?_⟩
  refine ps_alloc fun g17 => ?_
  refine pops_nil ?_
  clear hev; refine hs_wA ?_; refine pstl_go ?_ ?_ ?_; refine pd_pcall hop ?_; refine pstl_go ?_ ?_ ?_; refine pd_pcall hc1 ?_; refine pstl_go ?_ ?_ ?_; refine pd_pcall hc2 ?_; refine pstl_go ?_ ?_ ?_; refine pd_pcall hc3 ?_; refine pstl_go ?_ ?_ (pstl_end ?_); refine ⟨rfl, ?_⟩
  refine ps_st_row ?_
  refine pops_nil ?_
  refine hs_end ?_; refine pstl_nil ?_; refine ⟨rfl, ?_⟩
  clear hop hc1 hc2 hc3
  cases R with
  | false =>
    have he := hpe (by decide)
    rw [he]
    clear he hpe hpo
    (repeat refine ka ?_); refine kr ?_ ?_ ?_
    refine ps_pcall hrt ?_
    clear hrt
    refine pops_go ?_ ?_ (pops_end ?_)
    (repeat refine ka ?_); refine kct ?_
    (repeat refine ka ?_); refine kr ?_ ?_ ?_
    refine ps_mki ?_
    refine ps_st_row ?_
    refine ps_st_row ?_
    refine pops_go ?_ ?_ (pops_end ?_)
    (repeat refine ka ?_); refine kret ?_; repeat (first | with_reducible refine beh_r ?_ | with_reducible refine blk_r ?_)
    refine ends_ret ?_ (retPV_3 res_row res_row res_tmp)
    exact gives_zero _ _ _
  | true =>
    have he := hpo rfl
    rw [he]
    clear he hpe hpo
    (repeat refine ka ?_); refine kr ?_ ?_ ?_
    refine ps_pcall hrt ?_
    clear hrt
    refine pops_go ?_ ?_ (pops_end ?_)
    (repeat refine ka ?_); refine kcf ?_
    (repeat refine ka ?_); refine ksk ?_
    (repeat refine ka ?_); refine kds [0, 1] [2, 3, 4] ?_
    refine pstl_go ?_ ?_ (pstl_end ?_)
    refine hs_w [0] [1] ?_ (by refine pstl_go ?_ ?_ (pstl_end ?_); exact rfl); refine pstl_go ?_ ?_ (pstl_end ?_); refine ⟨rfl, ?_⟩
    refine ps_st_row ?_
    refine pops_nil ?_
    refine hs_w [1] [] ?_ (by refine pstl_go ?_ ?_ (pstl_end ?_); exact rfl); refine pstl_go ?_ ?_ (pstl_end ?_); refine ⟨rfl, ?_⟩
    refine ps_st_row ?_
    refine pops_nil ?_
    refine hs_w [] [] ?_ (by refine pstl_go ?_ ?_ (pstl_end ?_); exact rfl); refine pstl_go ?_ ?_ (pstl_end ?_); refine ⟨rfl, ?_⟩
    refine ps_ev (p := .v .nilIface) ?_ rfl
    refine pops_nil ?_
    refine hs_end ?_; refine pstl_go ?_ ?_ (pstl_end ?_); refine ⟨rfl, ?_⟩
    (repeat refine ka ?_); refine kret ?_; repeat (first | with_reducible refine beh_r ?_ | with_reducible refine blk_r ?_)
    refine ends_ret ?_ (retPV_3 res_row res_row res_tmp)
    exact .same PureC.h
end Go.Proofs.Ytfjodfeoncoaoaa.Pv
